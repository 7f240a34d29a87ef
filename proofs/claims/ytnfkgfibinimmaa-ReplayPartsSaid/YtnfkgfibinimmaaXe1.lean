/- Contracts of Go functions: what each returns, for every input that its premises name; no memory of the caller is touched. Printed by a program. -/
import Derived.Test.YtnfkgfibinimmaaXb5
import Derived.Test.YtnfkgfibinimmaaXq3
namespace Go.Proofs.Ytnfkgfibinimmaa.X
open Go Go.RowKit
set_option linter.unusedVariables false      -- a premise may serve only to tell which way is taken
set_option linter.unusedSimpArgs false
theorem right (s a l : Int) : Pub Try.prog 71 [.agg [.i s, .i a, .i l]] (fun rv => (((s = 0 ∨ s = 1) ∧ 0 ≤ a ∧ a ≤ l ∧ l ≤ 4096) ∧ rv = .t) ∨ ((¬ ((s = 0 ∨ s = 1) ∧ 0 ≤ a ∧ a ≤ l ∧ l ≤ 4096)) ∧ rv = .f)) := by
 refine pub_of TT_ok Try.func71 rfl (by decide) (Nat.le_of_ble_eq_true (by kernel_rfl)) (by kernel_rfl) ?_
 refine rg [] 2 ⟨[(2, .f), (1, .p 0)], [(0, .cells [.i s, .i a, .i l] 27)], 1⟩ [] trivial ?_
 refine xw_seq ?_
 refine reg ?_
 refine rk [(2, .bool (s == 0))] 4 0 ⟨[(6, .bool (s == 0)), (2, .f), (1, .p 0)], [(0, .cells [.i s, .i a, .i l] 27)], 1⟩ [True, (s == 0) = (s == 0)] ⟨trivial, rfl, trivial⟩ ?_
 refine splitr 6 (x := (s == 0)) (by kernel_rfl) (fun h0 => ?_) (fun h0 => ?_)
 ·
  replace h0 : s = 0 := eq_of_beq h0
  refine rk [(11, .bool (decide (0 ≤ a)))] 10 4 ⟨[(16, .bool (decide (0 ≤ a))), (2, .f), (1, .p 0)], [(0, .cells [.i s, .i a, .i l] 27)], 1⟩ [True, True, (decide (0 ≤ a)) = (decide (0 ≤ a)), True] ⟨trivial, trivial, rfl, trivial, trivial⟩ ?_
  refine splitr 16 (x := (decide (0 ≤ a))) (by kernel_rfl) (fun h1 => ?_) (fun h1 => ?_)
  ·
   replace h1 : 0 ≤ a := of_decide_eq_true h1
   refine rk [(18, .bool (decide (a ≤ l)))] 7 14 ⟨[(23, .bool (decide (a ≤ l))), (2, .f), (1, .p 0)], [(0, .cells [.i s, .i a, .i l] 27)], 1⟩ [True, True, (decide (a ≤ l)) = (decide (a ≤ l)), True] ⟨trivial, trivial, rfl, trivial, trivial⟩ ?_
   refine splitr 23 (x := (decide (a ≤ l))) (by kernel_rfl) (fun h2 => ?_) (fun h2 => ?_)
   ·
    replace h2 : a ≤ l := of_decide_eq_true h2
    refine rk [(23, .bool (decide (l ≤ 4096)))] 5 21 ⟨[(2, .bool (decide (l ≤ 4096)))], [], 1⟩ [True, (decide (l ≤ 4096)) = (decide (l ≤ 4096)), True] ⟨trivial, rfl, trivial, trivial⟩ ?_
    refine en ?_
    refine an ?_
    refine xw_ret ?_
    by_cases h3 : l ≤ 4096
    ·
     exact br (.bool (decide (l ≤ 4096))) (.t) (wkd [(decide (l ≤ 4096)) = true] (by kernel_rfl) ⟨(by first | exact decide_eq_true (by omega) | exact decide_eq_false (by omega) | (simp; done) | (simp; omega) | simp_all | grind), trivial⟩) (Or.inl <| ⟨(by omega), rfl⟩)
    ·
     exact br (.bool (decide (l ≤ 4096))) (.f) (wkd [(decide (l ≤ 4096)) = false] (by kernel_rfl) ⟨(by first | exact decide_eq_true (by omega) | exact decide_eq_false (by omega) | (simp; done) | (simp; omega) | simp_all | grind), trivial⟩) (Or.inr <| ⟨(by omega), rfl⟩)
   ·
    replace h2 : ¬ (a ≤ l) := of_decide_eq_false h2
    refine rk [] 5 21 ⟨[(2, .f)], [], 1⟩ [True] ⟨trivial, trivial⟩ ?_
    refine en ?_
    refine an ?_
    refine xw_ret ?_
    exact bs (.f) (Or.inr <| ⟨(by omega), rfl⟩)
  ·
   replace h1 : ¬ (0 ≤ a) := of_decide_eq_false h1
   refine rk [] 12 14 ⟨[(2, .f)], [], 1⟩ [True, True] ⟨trivial, trivial, trivial⟩ ?_
   refine en ?_
   refine an ?_
   refine xw_ret ?_
   exact bs (.f) (Or.inr <| ⟨(by omega), rfl⟩)
 ·
  replace h0 : s ≠ 0 := ne_of_beq_false h0
  refine rk [(6, .bool (s == 1))] 5 4 ⟨[(11, .bool (s == 1)), (2, .f), (1, .p 0)], [(0, .cells [.i s, .i a, .i l] 27)], 1⟩ [True, (s == 1) = (s == 1), True] ⟨trivial, rfl, trivial, trivial⟩ ?_
  refine splitr 11 (x := (s == 1)) (by kernel_rfl) (fun h1 => ?_) (fun h1 => ?_)
  ·
   replace h1 : s = 1 := eq_of_beq h1
   refine rk [(11, .bool (decide (0 ≤ a)))] 5 9 ⟨[(16, .bool (decide (0 ≤ a))), (2, .f), (1, .p 0)], [(0, .cells [.i s, .i a, .i l] 27)], 1⟩ [True, (decide (0 ≤ a)) = (decide (0 ≤ a)), True] ⟨trivial, rfl, trivial, trivial⟩ ?_
   refine splitr 16 (x := (decide (0 ≤ a))) (by kernel_rfl) (fun h2 => ?_) (fun h2 => ?_)
   ·
    replace h2 : 0 ≤ a := of_decide_eq_true h2
    refine rk [(18, .bool (decide (a ≤ l)))] 7 14 ⟨[(23, .bool (decide (a ≤ l))), (2, .f), (1, .p 0)], [(0, .cells [.i s, .i a, .i l] 27)], 1⟩ [True, True, (decide (a ≤ l)) = (decide (a ≤ l)), True] ⟨trivial, trivial, rfl, trivial, trivial⟩ ?_
    refine splitr 23 (x := (decide (a ≤ l))) (by kernel_rfl) (fun h3 => ?_) (fun h3 => ?_)
    ·
     replace h3 : a ≤ l := of_decide_eq_true h3
     refine rk [(23, .bool (decide (l ≤ 4096)))] 5 21 ⟨[(2, .bool (decide (l ≤ 4096)))], [], 1⟩ [True, (decide (l ≤ 4096)) = (decide (l ≤ 4096)), True] ⟨trivial, rfl, trivial, trivial⟩ ?_
     refine en ?_
     refine an ?_
     refine xw_ret ?_
     by_cases h4 : l ≤ 4096
     ·
      exact br (.bool (decide (l ≤ 4096))) (.t) (wkd [(decide (l ≤ 4096)) = true] (by kernel_rfl) ⟨(by first | exact decide_eq_true (by omega) | exact decide_eq_false (by omega) | (simp; done) | (simp; omega) | simp_all | grind), trivial⟩) (Or.inl <| ⟨(by omega), rfl⟩)
     ·
      exact br (.bool (decide (l ≤ 4096))) (.f) (wkd [(decide (l ≤ 4096)) = false] (by kernel_rfl) ⟨(by first | exact decide_eq_true (by omega) | exact decide_eq_false (by omega) | (simp; done) | (simp; omega) | simp_all | grind), trivial⟩) (Or.inr <| ⟨(by omega), rfl⟩)
    ·
     replace h3 : ¬ (a ≤ l) := of_decide_eq_false h3
     refine rk [] 5 21 ⟨[(2, .f)], [], 1⟩ [True] ⟨trivial, trivial⟩ ?_
     refine en ?_
     refine an ?_
     refine xw_ret ?_
     exact bs (.f) (Or.inr <| ⟨(by omega), rfl⟩)
   ·
    replace h2 : ¬ (0 ≤ a) := of_decide_eq_false h2
    refine rk [] 12 14 ⟨[(2, .f)], [], 1⟩ [True, True] ⟨trivial, trivial, trivial⟩ ?_
    refine en ?_
    refine an ?_
    refine xw_ret ?_
    exact bs (.f) (Or.inr <| ⟨(by omega), rfl⟩)
  ·
   replace h1 : s ≠ 1 := ne_of_beq_false h1
   refine rk [] 17 9 ⟨[(2, .f)], [], 1⟩ [True, True, True] ⟨trivial, trivial, trivial, trivial⟩ ?_
   refine en ?_
   refine an ?_
   refine xw_ret ?_
   exact bs (.f) (Or.inr <| ⟨(by omega), rfl⟩)

theorem right_1 (s a l : Int) (hp0 : (s = 0 ∨ s = 1) ∧ 0 ≤ a ∧ a ≤ l ∧ l ≤ 4096) : Pub Try.prog 71 [.agg [.i s, .i a, .i l]] (fun rv => rv = .t) := by
  refine (right s a l ).mono ?_
  rintro _ (⟨g0, rfl⟩ | ⟨g0, rfl⟩)
  all_goals first | rfl | (exfalso; first | omega | grind)

theorem right_2 (s a l : Int) (hp0 : ¬ ((s = 0 ∨ s = 1) ∧ 0 ≤ a ∧ a ≤ l ∧ l ≤ 4096)) : Pub Try.prog 71 [.agg [.i s, .i a, .i l]] (fun rv => rv = .f) := by
  refine (right s a l ).mono ?_
  rintro _ (⟨g0, rfl⟩ | ⟨g0, rfl⟩)
  all_goals first | rfl | (exfalso; first | omega | grind)

theorem rright (s a l : Int) : Pub Try.prog 22 [.agg [.i s, .i a, .i l]] (fun rv => (((s = 0 ∨ s = 1) ∧ 0 ≤ a ∧ a ≤ l ∧ l ≤ 4096) ∧ rv = .t) ∨ ((¬ ((s = 0 ∨ s = 1) ∧ 0 ≤ a ∧ a ≤ l ∧ l ≤ 4096)) ∧ rv = .f)) := by
 refine pub_of TT_ok Try.func22 rfl (by decide) (Nat.le_of_ble_eq_true (by kernel_rfl)) (by kernel_rfl) ?_
 refine rg [] 2 ⟨[(2, .f), (1, .p 0)], [(0, .cells [.i s, .i a, .i l] 27)], 1⟩ [] trivial ?_
 refine xw_seq ?_
 refine reg ?_
 refine rk [(2, .bool (decide (0 ≤ s)))] 4 0 ⟨[(6, .bool (decide (0 ≤ s))), (2, .f), (1, .p 0)], [(0, .cells [.i s, .i a, .i l] 27)], 1⟩ [True, (decide (0 ≤ s)) = (decide (0 ≤ s))] ⟨trivial, rfl, trivial⟩ ?_
 refine splitr 6 (x := (decide (0 ≤ s))) (by kernel_rfl) (fun h0 => ?_) (fun h0 => ?_)
 ·
  replace h0 : 0 ≤ s := of_decide_eq_true h0
  refine rk [(6, .bool (decide (s ≤ 1)))] 5 4 ⟨[(11, .bool (decide (s ≤ 1))), (2, .f), (1, .p 0)], [(0, .cells [.i s, .i a, .i l] 27)], 1⟩ [True, (decide (s ≤ 1)) = (decide (s ≤ 1)), True] ⟨trivial, rfl, trivial, trivial⟩ ?_
  refine splitr 11 (x := (decide (s ≤ 1))) (by kernel_rfl) (fun h1 => ?_) (fun h1 => ?_)
  ·
   replace h1 : s ≤ 1 := of_decide_eq_true h1
   refine rk [(11, .bool (decide (0 ≤ a)))] 5 9 ⟨[(16, .bool (decide (0 ≤ a))), (2, .f), (1, .p 0)], [(0, .cells [.i s, .i a, .i l] 27)], 1⟩ [True, (decide (0 ≤ a)) = (decide (0 ≤ a)), True] ⟨trivial, rfl, trivial, trivial⟩ ?_
   refine splitr 16 (x := (decide (0 ≤ a))) (by kernel_rfl) (fun h2 => ?_) (fun h2 => ?_)
   ·
    replace h2 : 0 ≤ a := of_decide_eq_true h2
    refine rk [(18, .bool (decide (a ≤ l)))] 7 14 ⟨[(23, .bool (decide (a ≤ l))), (2, .f), (1, .p 0)], [(0, .cells [.i s, .i a, .i l] 27)], 1⟩ [True, True, (decide (a ≤ l)) = (decide (a ≤ l)), True] ⟨trivial, trivial, rfl, trivial, trivial⟩ ?_
    refine splitr 23 (x := (decide (a ≤ l))) (by kernel_rfl) (fun h3 => ?_) (fun h3 => ?_)
    ·
     replace h3 : a ≤ l := of_decide_eq_true h3
     refine rk [(23, .bool (decide (l ≤ 4096)))] 5 21 ⟨[(2, .bool (decide (l ≤ 4096)))], [], 1⟩ [True, (decide (l ≤ 4096)) = (decide (l ≤ 4096)), True] ⟨trivial, rfl, trivial, trivial⟩ ?_
     refine en ?_
     refine an ?_
     refine xw_ret ?_
     by_cases h4 : l ≤ 4096
     ·
      exact br (.bool (decide (l ≤ 4096))) (.t) (wkd [(decide (l ≤ 4096)) = true] (by kernel_rfl) ⟨(by first | exact decide_eq_true (by omega) | exact decide_eq_false (by omega) | (simp; done) | (simp; omega) | simp_all | grind), trivial⟩) (Or.inl <| ⟨(by omega), rfl⟩)
     ·
      exact br (.bool (decide (l ≤ 4096))) (.f) (wkd [(decide (l ≤ 4096)) = false] (by kernel_rfl) ⟨(by first | exact decide_eq_true (by omega) | exact decide_eq_false (by omega) | (simp; done) | (simp; omega) | simp_all | grind), trivial⟩) (Or.inr <| ⟨(by omega), rfl⟩)
    ·
     replace h3 : ¬ (a ≤ l) := of_decide_eq_false h3
     refine rk [] 5 21 ⟨[(2, .f)], [], 1⟩ [True] ⟨trivial, trivial⟩ ?_
     refine en ?_
     refine an ?_
     refine xw_ret ?_
     exact bs (.f) (Or.inr <| ⟨(by omega), rfl⟩)
   ·
    replace h2 : ¬ (0 ≤ a) := of_decide_eq_false h2
    refine rk [] 12 14 ⟨[(2, .f)], [], 1⟩ [True, True] ⟨trivial, trivial, trivial⟩ ?_
    refine en ?_
    refine an ?_
    refine xw_ret ?_
    exact bs (.f) (Or.inr <| ⟨(by omega), rfl⟩)
  ·
   replace h1 : ¬ (s ≤ 1) := of_decide_eq_false h1
   refine rk [] 17 9 ⟨[(2, .f)], [], 1⟩ [True, True, True] ⟨trivial, trivial, trivial, trivial⟩ ?_
   refine en ?_
   refine an ?_
   refine xw_ret ?_
   exact bs (.f) (Or.inr <| ⟨(by omega), rfl⟩)
 ·
  replace h0 : ¬ (0 ≤ s) := of_decide_eq_false h0
  refine rk [] 22 4 ⟨[(2, .f)], [], 1⟩ [True, True, True, True] ⟨trivial, trivial, trivial, trivial, trivial⟩ ?_
  refine en ?_
  refine an ?_
  refine xw_ret ?_
  exact bs (.f) (Or.inr <| ⟨(by omega), rfl⟩)

theorem rright_1 (s a l : Int) (hp0 : (s = 0 ∨ s = 1) ∧ 0 ≤ a ∧ a ≤ l ∧ l ≤ 4096) : Pub Try.prog 22 [.agg [.i s, .i a, .i l]] (fun rv => rv = .t) := by
  refine (rright s a l ).mono ?_
  rintro _ (⟨g0, rfl⟩ | ⟨g0, rfl⟩)
  all_goals first | rfl | (exfalso; first | omega | grind)

theorem rright_2 (s a l : Int) (hp0 : ¬ ((s = 0 ∨ s = 1) ∧ 0 ≤ a ∧ a ≤ l ∧ l ≤ 4096)) : Pub Try.prog 22 [.agg [.i s, .i a, .i l]] (fun rv => rv = .f) := by
  refine (rright s a l ).mono ?_
  rintro _ (⟨g0, rfl⟩ | ⟨g0, rfl⟩)
  all_goals first | rfl | (exfalso; first | omega | grind)

theorem left (s a l : Int) : Pub Try.prog 70 [.agg [.i s, .i a, .i l]] (fun rv => (((s = 0 ∨ s = 1) ∧ 0 ≤ a ∧ a ≤ l ∧ l ≤ 4096) ∧ rv = .i (l - a)) ∨ ((¬ ((s = 0 ∨ s = 1) ∧ 0 ≤ a ∧ a ≤ l ∧ l ≤ 4096)) ∧ rv = .i 0)) := by
 refine pub_of TT_ok Try.func70 rfl (by decide) (Nat.le_of_ble_eq_true (by kernel_rfl)) (by kernel_rfl) ?_
 refine rg [] 2 ⟨[(2, .i 0), (1, .p 0)], [(0, .cells [.i s, .i a, .i l] 27)], 1⟩ [] trivial ?_
 refine xw_seq ?_
 refine xw_seq ?_
 refine reg ?_
 refine rk [] 1 0 ⟨[(3, .agg [.i s, .i a, .i l]), (2, .i 0), (1, .p 0)], [(0, .cells [.i s, .i a, .i l] 27)], 1⟩ [True] ⟨trivial, trivial⟩ ?_
 by_cases h0 : (s = 0 ∨ s = 1) ∧ 0 ≤ a ∧ a ≤ l ∧ l ≤ 4096
 ·
  refine pc (right_1 s a l ‹_›) ?_
  refine rk [] 1 2 ⟨[(5, .f), (2, .i 0), (1, .p 0)], [(0, .cells [.i s, .i a, .i l] 27)], 1⟩ [] trivial ?_
  refine en ?_
  refine an ?_
  refine cf ?_
  refine xw_skip ?_
  refine an ?_
  refine rg [(4, .i (l - a))] 6 ⟨[(2, .i (l - a))], [], 1⟩ [True, True, IntKind.i64.wrap (l - a) = (l - a)] ⟨trivial, trivial, i64_eq (by omega) (by omega), trivial⟩ ?_
  refine xw_ret ?_
  exact bs (.i (l - a)) (Or.inl <| ⟨(by omega), rfl⟩)
 ·
  refine pc (right_2 s a l ‹_›) ?_
  refine rk [] 1 2 ⟨[(5, .t), (2, .i 0), (1, .p 0)], [(0, .cells [.i s, .i a, .i l] 27)], 1⟩ [] trivial ?_
  refine en ?_
  refine an ?_
  refine ct ?_
  refine rg [] 1 ⟨[(2, .i 0), (1, .p 0)], [(0, .cells [.i s, .i a, .i l] 27)], 1⟩ [] trivial ?_
  refine xw_ret ?_
  refine an_ret ?_
  exact bs (.i 0) (Or.inr <| ⟨(by omega), rfl⟩)

theorem left_1 (s a l : Int) (hp0 : (s = 0 ∨ s = 1) ∧ 0 ≤ a ∧ a ≤ l ∧ l ≤ 4096) : Pub Try.prog 70 [.agg [.i s, .i a, .i l]] (fun rv => rv = .i (l - a)) := by
  refine (left s a l ).mono ?_
  rintro _ (⟨g0, rfl⟩ | ⟨g0, rfl⟩)
  all_goals first | rfl | (exfalso; first | omega | grind)

theorem take (s a l n : Int) : Pub Try.prog 53 [.agg [.i s, .i a, .i l], .i n] (fun rv => (((s = 0 ∨ s = 1) ∧ 0 ≤ a ∧ a ≤ l ∧ l ≤ 4096) ∧ (1 ≤ n) ∧ (n ≤ l - a) ∧ rv = .tup [.agg [.i s, .i (a + n), .i l], .u ((s + 1) * 4294967296 + a), .i 0]) ∨ (((s = 0 ∨ s = 1) ∧ 0 ≤ a ∧ a ≤ l ∧ l ≤ 4096) ∧ (1 ≤ n) ∧ (l - a < n) ∧ rv = .tup [.agg [.i s, .i a, .i l], .u 0, .i 4]) ∨ ((¬ (((s = 0 ∨ s = 1) ∧ 0 ≤ a ∧ a ≤ l ∧ l ≤ 4096) ∧ 1 ≤ n)) ∧ rv = .tup [.agg [.i s, .i a, .i l], .u 0, .i 1])) := by
 refine pub_of TT_ok Try.func53 rfl (by decide) (Nat.le_of_ble_eq_true (by kernel_rfl)) (by kernel_rfl) ?_
 refine rg [] 5 ⟨[(6, .i 0), (5, .u 0), (4, .p 2), (3, .p 1), (2, .p 0)], [(2, .cells [.i 0, .i 0, .i 0] 27), (1, .cells [.i n] 3), (0, .cells [.i s, .i a, .i l] 27)], 3⟩ [] trivial ?_
 refine rg [] 1 ⟨[(7, .i 1), (6, .i 0), (5, .u 0), (4, .p 2), (3, .p 1), (2, .p 0)], [(2, .cells [.i 0, .i 0, .i 0] 27), (1, .cells [.i n] 3), (0, .cells [.i s, .i a, .i l] 27)], 3⟩ [] trivial ?_
 refine rg [] 2 ⟨[(8, .fn 69 [] [.p 1, .p 0]), (7, .i 1), (6, .i 0), (5, .u 0), (4, .p 2), (3, .p 1), (2, .p 0)], [(2, .cells [.i 0, .i 0, .i 0] 27), (1, .cells [.i n] 3), (0, .cells [.i s, .i a, .i l] 27)], 3⟩ [] trivial ?_
 refine xw_seq ?_
 refine xw_block ?_
 refine xw_seq ?_
 refine xw_block ?_
 refine xw_seq ?_
 refine xw_block ?_
 refine xw_seq ?_
 refine xw_seq ?_
 refine reg ?_
 refine rk [] 1 0 ⟨[(12, .agg [.i s, .i a, .i l]), (8, .fn 69 [] [.p 1, .p 0]), (7, .i 1), (6, .i 0), (5, .u 0), (4, .p 2), (3, .p 1), (2, .p 0)], [(2, .cells [.i 0, .i 0, .i 0] 27), (1, .cells [.i n] 3), (0, .cells [.i s, .i a, .i l] 27)], 3⟩ [True] ⟨trivial, trivial⟩ ?_
 by_cases h0 : (s = 0 ∨ s = 1) ∧ 0 ≤ a ∧ a ≤ l ∧ l ≤ 4096
 ·
  refine pc (right_1 s a l ‹_›) ?_
  refine rk [(4, .bool (decide (1 ≤ n)))] 5 2 ⟨[(11, .bool (decide (1 ≤ n))), (8, .fn 69 [] [.p 1, .p 0]), (7, .i 1), (6, .i 0), (5, .u 0), (4, .p 2), (3, .p 1), (2, .p 0)], [(2, .cells [.i 0, .i 0, .i 0] 27), (1, .cells [.i n] 3), (0, .cells [.i s, .i a, .i l] 27)], 3⟩ [True, (decide (1 ≤ n)) = (decide (1 ≤ n)), True] ⟨trivial, rfl, trivial, trivial⟩ ?_
  refine en ?_
  refine an ?_
  refine xw_cond (b := (decide (1 ≤ n))) (by kernel_rfl) (fun h1 => ?_) (fun h1 => ?_)
  ·
   replace h1 : 1 ≤ n := of_decide_eq_true h1
   refine xw_exit ?_
   refine an_exit ?_
   refine ib_same ?_
   refine an ?_
   refine rg [] 1 ⟨[(7, .i 4), (8, .fn 69 [] [.p 1, .p 0]), (6, .i 0), (5, .u 0), (4, .p 2), (3, .p 1), (2, .p 0)], [(2, .cells [.i 0, .i 0, .i 0] 27), (1, .cells [.i n] 3), (0, .cells [.i s, .i a, .i l] 27)], 3⟩ [] trivial ?_
   refine xw_seq ?_
   refine reg ?_
   refine rk [] 1 0 ⟨[(18, .fn 69 [] [.p 1, .p 0]), (7, .i 4), (6, .i 0), (5, .u 0), (4, .p 2), (3, .p 1), (2, .p 0)], [(2, .cells [.i 0, .i 0, .i 0] 27), (1, .cells [.i n] 3), (0, .cells [.i s, .i a, .i l] 27)], 3⟩ [] trivial ?_
   refine callx (f := 69) (args := [.p 1, .p 0]) (d := (some 19)) (by kernel_rfl) (xcall_of TT_ok Try.func69 rfl (by decide) (Nat.le_of_ble_eq_true (by kernel_rfl)) ?_)
   refine rg [] 1 ⟨[(2, .f), (0, .p 1), (1, .p 0)], [(2, .cells [.i 0, .i 0, .i 0] 27), (1, .cells [.i n] 3), (0, .cells [.i s, .i a, .i l] 27)], 3⟩ [] trivial ?_
   refine xw_seq ?_
   refine dregk hmix (by kernel_rfl) ?_
   refine qr [] 2 0 [(4, .agg [.i s, .i a, .i l]), (3, .i n), (2, .f), (0, .p 1), (1, .p 0)] [True, True] ⟨trivial, trivial, trivial⟩ ?_
   refine qc (left_1 s a l ‹_›) ?_
   refine qr [(3, .bool (decide (n ≤ (l - a))))] 2 3 [(2, .bool (decide (n ≤ (l - a)))), (6, .bool (decide (n ≤ (l - a)))), (5, .i (l - a)), (4, .agg [.i s, .i a, .i l]), (3, .i n), (2, .f), (0, .p 1), (1, .p 0)] [(decide (n ≤ (l - a))) = (decide (n ≤ (l - a)))] ⟨rfl, trivial⟩ ?_
   refine qen ?_
   refine an ?_
   refine xw_ret ?_
   refine ⟨.bool (decide (n ≤ (l - a))), by kernel_rfl, ?_⟩
   show XOi _ _ _ _ _ _ _ ⟨[(19, .bool (decide (n ≤ (l - a)))), (18, .fn 69 [] [.loc 1 0, .loc 0 0]), (7, .int .i64 4), (6, .int .i64 0), (5, .int .u64 0), (4, .loc 2 0), (3, .loc 1 0), (2, .loc 0 0)], [(2, .cells [.int .i64 0, .int .i64 0, .int .i64 0] 27), (1, .cells [.int .i64 n] 3), (0, .cells [.int .i64 s, .int .i64 a, .int .i64 l] 27)], 3⟩
   refine en ?_
   refine an ?_
   refine xw_cond (b := (decide (n ≤ (l - a)))) (by kernel_rfl) (fun h2 => ?_) (fun h2 => ?_)
   ·
    replace h2 : n ≤ (l - a) := of_decide_eq_true h2
    refine xw_exit ?_
    refine ib_exit (by kernel_rfl) ?_
    refine an_exit ?_
    refine ib_same ?_
    refine an ?_
    refine xw_seq ?_
    refine reg ?_
    refine rk [] 4 0 ⟨[(25, .i a), (23, .i s), (6, .i 0), (5, .u 0), (4, .p 2), (3, .p 1), (2, .p 0)], [(2, .cells [.i 0, .i 0, .i 0] 27), (1, .cells [.i n] 3), (0, .cells [.i s, .i a, .i l] 27)], 3⟩ [True, True] ⟨trivial, trivial, trivial⟩ ?_
    refine pc (addr_1 s a (by omega)) ?_
    refine rk [] 1 5 ⟨[(9, .u ((s + 1) * 4294967296 + a)), (6, .i 0), (5, .u 0), (4, .p 2), (3, .p 1), (2, .p 0)], [(2, .cells [.i 0, .i 0, .i 0] 27), (1, .cells [.i n] 3), (0, .cells [.i s, .i a, .i l] 27)], 3⟩ [] trivial ?_
    refine en ?_
    refine an ?_
    refine rg [(3, .i (a + n))] 6 ⟨[(9, .u ((s + 1) * 4294967296 + a)), (6, .i 0), (5, .u 0), (4, .p 2), (2, .p 0)], [(2, .cells [.i 0, .i 0, .i 0] 27), (0, .cells [.i s, .i (a + n), .i l] 27)], 3⟩ [True, True, IntKind.i64.wrap (a + n) = (a + n), True] ⟨trivial, trivial, i64_eq (by omega) (by omega), trivial, trivial⟩ ?_
    refine rg [] 5 ⟨[(6, .i 0), (5, .u ((s + 1) * 4294967296 + a)), (4, .p 2)], [(2, .cells [.i s, .i (a + n), .i l] 27)], 3⟩ [True, True] ⟨trivial, trivial, trivial⟩ ?_
    refine xw_ret ?_
    exact bs (.tup [.agg [.i s, .i (a + n), .i l], .u ((s + 1) * 4294967296 + a), .i 0]) (Or.inl <| ⟨(by omega), (by omega), (by omega), rfl⟩)
   ·
    replace h2 : ¬ (n ≤ (l - a)) := of_decide_eq_false h2
    refine xw_skip ?_
    refine ib ?_
    refine an ?_
    refine xw_seq ?_
    refine rg [] 5 ⟨[(6, .i 4), (5, .u 0), (4, .p 2), (3, .p 1), (2, .p 0)], [(2, .cells [.i s, .i a, .i l] 27), (1, .cells [.i n] 3), (0, .cells [.i s, .i a, .i l] 27)], 3⟩ [True, True] ⟨trivial, trivial, trivial⟩ ?_
    refine xw_ret ?_
    refine an_ret ?_
    refine ib_ret ?_
    refine an_ret ?_
    exact bs (.tup [.agg [.i s, .i a, .i l], .u 0, .i 4]) (Or.inr <| Or.inl <| ⟨(by omega), (by omega), (by omega), rfl⟩)
  ·
   replace h1 : ¬ (1 ≤ n) := of_decide_eq_false h1
   refine xw_skip ?_
   refine an ?_
   refine xw_exit ?_
   refine ib_exit (by kernel_rfl) ?_
   refine an_exit ?_
   refine ib_same ?_
   refine an ?_
   refine xw_seq ?_
   refine rg [] 5 ⟨[(6, .i 1), (5, .u 0), (4, .p 2), (3, .p 1), (2, .p 0)], [(2, .cells [.i s, .i a, .i l] 27), (1, .cells [.i n] 3), (0, .cells [.i s, .i a, .i l] 27)], 3⟩ [True, True] ⟨trivial, trivial, trivial⟩ ?_
   refine xw_ret ?_
   refine an_ret ?_
   refine ib_ret ?_
   refine an_ret ?_
   exact bs (.tup [.agg [.i s, .i a, .i l], .u 0, .i 1]) (Or.inr <| Or.inr <| ⟨(by omega), rfl⟩)
 ·
  refine pc (right_2 s a l ‹_›) ?_
  refine rk [] 5 2 ⟨[(11, .f), (8, .fn 69 [] [.p 1, .p 0]), (7, .i 1), (6, .i 0), (5, .u 0), (4, .p 2), (3, .p 1), (2, .p 0)], [(2, .cells [.i 0, .i 0, .i 0] 27), (1, .cells [.i n] 3), (0, .cells [.i s, .i a, .i l] 27)], 3⟩ [True] ⟨trivial, trivial⟩ ?_
  refine en ?_
  refine an ?_
  refine cf ?_
  refine xw_skip ?_
  refine an ?_
  refine xw_exit ?_
  refine ib_exit (by kernel_rfl) ?_
  refine an_exit ?_
  refine ib_same ?_
  refine an ?_
  refine xw_seq ?_
  refine rg [] 5 ⟨[(6, .i 1), (5, .u 0), (4, .p 2), (3, .p 1), (2, .p 0)], [(2, .cells [.i s, .i a, .i l] 27), (1, .cells [.i n] 3), (0, .cells [.i s, .i a, .i l] 27)], 3⟩ [True, True] ⟨trivial, trivial, trivial⟩ ?_
  refine xw_ret ?_
  refine an_ret ?_
  refine ib_ret ?_
  refine an_ret ?_
  exact bs (.tup [.agg [.i s, .i a, .i l], .u 0, .i 1]) (Or.inr <| Or.inr <| ⟨(by omega), rfl⟩)

theorem take_1 (s a l n : Int) (hp0 : (s = 0 ∨ s = 1) ∧ 0 ≤ a ∧ a ≤ l ∧ l ≤ 4096) (hp1 : 1 ≤ n) (hp2 : n ≤ l - a) : Pub Try.prog 53 [.agg [.i s, .i a, .i l], .i n] (fun rv => rv = .tup [.agg [.i s, .i (a + n), .i l], .u ((s + 1) * 4294967296 + a), .i 0]) := by
  refine (take s a l n ).mono ?_
  rintro _ (⟨g0, g1, g2, rfl⟩ | ⟨g0, g1, g2, rfl⟩ | ⟨g0, rfl⟩)
  all_goals first | rfl | (exfalso; first | omega | grind)

theorem take_2 (s a l n : Int) (hp0 : (s = 0 ∨ s = 1) ∧ 0 ≤ a ∧ a ≤ l ∧ l ≤ 4096) (hp1 : 1 ≤ n) (hp2 : l - a < n) : Pub Try.prog 53 [.agg [.i s, .i a, .i l], .i n] (fun rv => rv = .tup [.agg [.i s, .i a, .i l], .u 0, .i 4]) := by
  refine (take s a l n ).mono ?_
  rintro _ (⟨g0, g1, g2, rfl⟩ | ⟨g0, g1, g2, rfl⟩ | ⟨g0, rfl⟩)
  all_goals first | rfl | (exfalso; first | omega | grind)

theorem rtake (s a l n : Int) : Pub Try.prog 31 [.agg [.i s, .i a, .i l], .i n] (fun rv => (((s = 0 ∨ s = 1) ∧ 0 ≤ a ∧ a ≤ l ∧ l ≤ 4096) ∧ (1 ≤ n) ∧ (n ≤ l - a) ∧ rv = .tup [.agg [.i s, .i (a + n), .i l], .u ((s + 1) * 4294967296 + a), .i 0]) ∨ (((s = 0 ∨ s = 1) ∧ 0 ≤ a ∧ a ≤ l ∧ l ≤ 4096) ∧ (1 ≤ n) ∧ (l - a < n) ∧ rv = .tup [.agg [.i s, .i a, .i l], .u 0, .i 4]) ∨ ((¬ (((s = 0 ∨ s = 1) ∧ 0 ≤ a ∧ a ≤ l ∧ l ≤ 4096) ∧ 1 ≤ n)) ∧ rv = .tup [.agg [.i s, .i a, .i l], .u 0, .i 1])) := by
 refine pub_of TT_ok Try.func31 rfl (by decide) (Nat.le_of_ble_eq_true (by kernel_rfl)) (by kernel_rfl) ?_
 refine rg [] 4 ⟨[(6, .i 0), (5, .u 0), (4, .p 1), (2, .p 0), (1, .i n)], [(1, .cells [.i 0, .i 0, .i 0] 27), (0, .cells [.i s, .i a, .i l] 27)], 2⟩ [] trivial ?_
 refine xw_seq ?_
 refine reg ?_
 refine rk [] 1 0 ⟨[(8, .agg [.i s, .i a, .i l]), (6, .i 0), (5, .u 0), (4, .p 1), (2, .p 0), (1, .i n)], [(1, .cells [.i 0, .i 0, .i 0] 27), (0, .cells [.i s, .i a, .i l] 27)], 2⟩ [True] ⟨trivial, trivial⟩ ?_
 by_cases h0 : (s = 0 ∨ s = 1) ∧ 0 ≤ a ∧ a ≤ l ∧ l ≤ 4096
 ·
  refine pc (rright_1 s a l ‹_›) ?_
  refine rk [] 1 2 ⟨[(7, .t), (6, .i 0), (5, .u 0), (4, .p 1), (2, .p 0), (1, .i n)], [(1, .cells [.i 0, .i 0, .i 0] 27), (0, .cells [.i s, .i a, .i l] 27)], 2⟩ [] trivial ?_
  refine en ?_
  refine an ?_
  refine xw_seq ?_
  refine rg [(4, .bool (decide (n < 1)))] 6 ⟨[(15, .bool (decide (n < 1))), (6, .i 0), (5, .u 0), (4, .p 1), (2, .p 0), (1, .i n)], [(1, .cells [.i 0, .i 0, .i 0] 27), (0, .cells [.i s, .i a, .i l] 27)], 2⟩ [(decide (n < 1)) = (decide (n < 1)), True] ⟨rfl, trivial, trivial⟩ ?_
  refine xw_cond (b := (decide (n < 1))) (by kernel_rfl) (fun h1 => ?_) (fun h1 => ?_)
  ·
   replace h1 : n < 1 := of_decide_eq_true h1
   refine rg [] 4 ⟨[(6, .i 1), (5, .u 0), (4, .p 1), (2, .p 0), (1, .i n)], [(1, .cells [.i s, .i a, .i l] 27), (0, .cells [.i s, .i a, .i l] 27)], 2⟩ [True, True] ⟨trivial, trivial, trivial⟩ ?_
   refine xw_ret ?_
   refine an_ret ?_
   exact bs (.tup [.agg [.i s, .i a, .i l], .u 0, .i 1]) (Or.inr <| Or.inr <| ⟨(by omega), rfl⟩)
  ·
   replace h1 : ¬ (n < 1) := of_decide_eq_false h1
   refine xw_skip ?_
   refine an ?_
   refine xw_seq ?_
   refine rg [(5, .i (l - a)), (6, .bool (decide ((l - a) < n)))] 7 ⟨[(23, .bool (decide ((l - a) < n))), (6, .i 0), (5, .u 0), (4, .p 1), (2, .p 0), (1, .i n)], [(1, .cells [.i 0, .i 0, .i 0] 27), (0, .cells [.i s, .i a, .i l] 27)], 2⟩ [True, True, IntKind.i64.wrap (l - a) = (l - a), (decide ((l - a) < n)) = (decide ((l - a) < n))] ⟨trivial, trivial, i64_eq (by omega) (by omega), rfl, trivial⟩ ?_
   refine xw_cond (b := (decide ((l - a) < n))) (by kernel_rfl) (fun h2 => ?_) (fun h2 => ?_)
   ·
    replace h2 : (l - a) < n := of_decide_eq_true h2
    refine rg [] 4 ⟨[(6, .i 4), (5, .u 0), (4, .p 1), (2, .p 0), (1, .i n)], [(1, .cells [.i s, .i a, .i l] 27), (0, .cells [.i s, .i a, .i l] 27)], 2⟩ [True, True] ⟨trivial, trivial, trivial⟩ ?_
    refine xw_ret ?_
    refine an_ret ?_
    exact bs (.tup [.agg [.i s, .i a, .i l], .u 0, .i 4]) (Or.inr <| Or.inl <| ⟨(by omega), (by omega), (by omega), rfl⟩)
   ·
    replace h2 : ¬ ((l - a) < n) := of_decide_eq_false h2
    refine xw_skip ?_
    refine an ?_
    refine xw_seq ?_
    refine sreg hmix [([(1, .cells [.i 0, .i 0, .i 0] 27), (0, .cells [.i s, .i a, .i l] 27)], 2), ([(1, .cells [.i s, .i (a + n), .i l] 27), (0, .cells [.i s, .i a, .i l] 27)], 2)] [14] [(1, [0]), (3, [2]), (5, [2, 3, 4]), (7, [6]), (8, [0, 1, 2, 3, 4, 5, 6, 7]), (10, [9]), (12, [11]), (13, [9, 10, 11, 12]), (14, [0, 1, 2, 3, 4, 5, 6, 7, 8, 9, 10, 11, 12, 13]), (15, [0, 1, 2, 3, 4, 5, 6, 7, 8, 9, 10, 11, 12, 13, 14]), (16, [0, 1, 2, 3, 4, 5, 6, 7, 8, 9, 10, 11, 12, 13, 14, 15])] (by kernel_rfl) (by kernel_rfl) (by kernel_rfl) (by kernel_rfl) (by kernel_rfl) ?_
    refine sr [(5, .i (a + n))] 13 0 [(37, .i a), (36, .loc 0 1), (35, .i s), (34, .p 0), (33, .agg [.i s, .i (a + n), .i l]), (32, .i l), (31, .loc 0 2), (30, .i (a + n)), (29, .i n), (28, .i a), (27, .loc 0 1), (26, .i s), (25, .p 0), (23, .bool (decide ((l - a) < n))), (6, .i 0), (5, .u 0), (4, .p 1), (2, .p 0), (1, .i n)] [True, True, True, True, True, IntKind.i64.wrap (a + n) = (a + n), True, True, True, True, True, True, True] ⟨trivial, trivial, trivial, trivial, trivial, i64_eq (by omega) (by omega), trivial, trivial, trivial, trivial, trivial, trivial, trivial, trivial⟩ ?_
    refine sc (raddr_1 s a (by omega)) ?_
    refine sr [] 3 14 [(6, .i 0), (5, .u ((s + 1) * 4294967296 + a)), (38, .u ((s + 1) * 4294967296 + a)), (37, .i a), (36, .loc 0 1), (35, .i s), (34, .p 0), (33, .agg [.i s, .i (a + n), .i l]), (32, .i l), (31, .loc 0 2), (30, .i (a + n)), (29, .i n), (28, .i a), (27, .loc 0 1), (26, .i s), (25, .p 0), (23, .bool (decide ((l - a) < n))), (6, .i 0), (5, .u 0), (4, .p 1), (2, .p 0), (1, .i n)] [True, ([(1, .cells [.i s, .i (a + n), .i l] 27), (0, .cells [.i s, .i a, .i l] 27)] : Mem) = [(1, .cells [.i s, .i (a + n), .i l] 27), (0, .cells [.i s, .i a, .i l] 27)], (2 : Nat) = 2, True, True] ⟨trivial, rfl, rfl, trivial, trivial, trivial⟩ ?_
    refine sen ?_
    refine an ?_
    refine xw_ret ?_
    exact bs (.tup [.agg [.i s, .i (a + n), .i l], .u ((s + 1) * 4294967296 + a), .i 0]) (Or.inl <| ⟨(by omega), (by omega), (by omega), rfl⟩)
 ·
  refine pc (rright_2 s a l ‹_›) ?_
  refine rk [] 1 2 ⟨[(7, .f), (6, .i 0), (5, .u 0), (4, .p 1), (2, .p 0), (1, .i n)], [(1, .cells [.i 0, .i 0, .i 0] 27), (0, .cells [.i s, .i a, .i l] 27)], 2⟩ [] trivial ?_
  refine en ?_
  refine an ?_
  refine xw_seq ?_
  refine rg [] 6 ⟨[(15, .t), (6, .i 0), (5, .u 0), (4, .p 1), (2, .p 0), (1, .i n)], [(1, .cells [.i 0, .i 0, .i 0] 27), (0, .cells [.i s, .i a, .i l] 27)], 2⟩ [True] ⟨trivial, trivial⟩ ?_
  refine ct ?_
  refine rg [] 4 ⟨[(6, .i 1), (5, .u 0), (4, .p 1), (2, .p 0), (1, .i n)], [(1, .cells [.i s, .i a, .i l] 27), (0, .cells [.i s, .i a, .i l] 27)], 2⟩ [True, True] ⟨trivial, trivial, trivial⟩ ?_
  refine xw_ret ?_
  refine an_ret ?_
  exact bs (.tup [.agg [.i s, .i a, .i l], .u 0, .i 1]) (Or.inr <| Or.inr <| ⟨(by omega), rfl⟩)

theorem rtake_1 (s a l n : Int) (hp0 : (s = 0 ∨ s = 1) ∧ 0 ≤ a ∧ a ≤ l ∧ l ≤ 4096) (hp1 : 1 ≤ n) (hp2 : n ≤ l - a) : Pub Try.prog 31 [.agg [.i s, .i a, .i l], .i n] (fun rv => rv = .tup [.agg [.i s, .i (a + n), .i l], .u ((s + 1) * 4294967296 + a), .i 0]) := by
  refine (rtake s a l n ).mono ?_
  rintro _ (⟨g0, g1, g2, rfl⟩ | ⟨g0, g1, g2, rfl⟩ | ⟨g0, rfl⟩)
  all_goals first | rfl | (exfalso; first | omega | grind)

theorem rtake_2 (s a l n : Int) (hp0 : (s = 0 ∨ s = 1) ∧ 0 ≤ a ∧ a ≤ l ∧ l ≤ 4096) (hp1 : 1 ≤ n) (hp2 : l - a < n) : Pub Try.prog 31 [.agg [.i s, .i a, .i l], .i n] (fun rv => rv = .tup [.agg [.i s, .i a, .i l], .u 0, .i 4]) := by
  refine (rtake s a l n ).mono ?_
  rintro _ (⟨g0, g1, g2, rfl⟩ | ⟨g0, g1, g2, rfl⟩ | ⟨g0, rfl⟩)
  all_goals first | rfl | (exfalso; first | omega | grind)

end Go.Proofs.Ytnfkgfibinimmaa.X
