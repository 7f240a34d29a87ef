/- Contracts of Go functions: what each returns, for every input that its premises name; no memory of the caller is touched. Printed by a program. -/
import Derived.Test.YtjchmajamlehmaaXb5
namespace Go.Proofs.Ytjchmajamlehmaa.X
open Go Go.RowKit
set_option linter.unusedVariables false      -- a premise may serve only to tell which way is taken
set_option linter.unusedSimpArgs false
theorem right (s a l : Int) : Pub Try.prog 81 [.agg [.i s, .i a, .i l]] (fun rv => (((s = 0 ∨ s = 1) ∧ 0 ≤ a ∧ a ≤ l ∧ l ≤ 4096) ∧ rv = .t) ∨ ((¬ ((s = 0 ∨ s = 1) ∧ 0 ≤ a ∧ a ≤ l ∧ l ≤ 4096)) ∧ rv = .f)) := by
 refine pub_of TT_ok Try.func81 rfl (by decide) (Nat.le_of_ble_eq_true (by kernel_rfl)) (by kernel_rfl) ?_
 refine rgi [] 2 [2, 1] [0] [] trivial ?_
 refine xw_seq ?_
 refine reg ?_
 refine rki [(2, .bool (s == 0))] 4 0 [6, 2, 1] [0] [True, sm (s == 0)] ⟨trivial, rfl, trivial⟩ ?_
 refine splitr 6 (x := (s == 0)) (by kernel_rfl) (fun h0 => ?_) (fun h0 => ?_)
 ·
  replace h0 : s = 0 := eq_of_beq h0
  refine rki [(11, .bool (decide (0 ≤ a)))] 10 4 [16, 2, 1] [0] [True, True, sm (decide (0 ≤ a)), True] ⟨trivial, trivial, rfl, trivial, trivial⟩ ?_
  refine splitr 16 (x := (decide (0 ≤ a))) (by kernel_rfl) (fun h1 => ?_) (fun h1 => ?_)
  ·
   replace h1 : 0 ≤ a := of_decide_eq_true h1
   refine rk [(18, .bool (decide (a ≤ l)))] 7 14 ⟨[(23, .bool (decide (a ≤ l))), (2, .f), (1, .p 0)], [(0, .cells [.i s, .i a, .i l] 27)], 1⟩ [True, True, sm (decide (a ≤ l)), True] ⟨trivial, trivial, rfl, trivial, trivial⟩ ?_
   refine splitr 23 (x := (decide (a ≤ l))) (by kernel_rfl) (fun h2 => ?_) (fun h2 => ?_)
   ·
    replace h2 : a ≤ l := of_decide_eq_true h2
    refine rki [(23, .bool (decide (l ≤ 4096)))] 5 21 [2] [] [True, sm (decide (l ≤ 4096)), True] ⟨trivial, rfl, trivial, trivial⟩ ?_
    refine en ?_
    refine an ?_
    refine xw_ret ?_
    by_cases h3 : l ≤ 4096
    ·
     exact br (.bool (decide (l ≤ 4096))) (.t) (wkd [(decide (l ≤ 4096)) = true] (by kernel_rfl) ⟨(by first | exact decide_eq_true (by omega) | exact decide_eq_false (by omega) | (simp; done) | (simp; omega) | (simp_all; done) | (simp_all; omega) | grind), trivial⟩) (Or.inl <| ⟨(by omega), rfl⟩)
    ·
     exact br (.bool (decide (l ≤ 4096))) (.f) (wkd [(decide (l ≤ 4096)) = false] (by kernel_rfl) ⟨(by first | exact decide_eq_true (by omega) | exact decide_eq_false (by omega) | (simp; done) | (simp; omega) | (simp_all; done) | (simp_all; omega) | grind), trivial⟩) (Or.inr <| ⟨(by omega), rfl⟩)
   ·
    replace h2 : ¬ (a ≤ l) := of_decide_eq_false h2
    refine rki [] 5 21 [2] [] [True] ⟨trivial, trivial⟩ ?_
    refine en ?_
    refine an ?_
    refine xw_ret ?_
    exact bs (.f) (Or.inr <| ⟨(by omega), rfl⟩)
  ·
   replace h1 : ¬ (0 ≤ a) := of_decide_eq_false h1
   refine rk [] 12 14 ⟨[(2, .f)], [], 1⟩ [True, True] ⟨trivial, trivial, trivial⟩ ?_
   refine en ?_
   refine an ?_
   refine xw_ret ?_
   exact bs (.f) (Or.inr <| ⟨(by omega), rfl⟩)
 ·
  replace h0 : s ≠ 0 := ne_of_beq_false h0
  refine rki [(6, .bool (s == 1))] 5 4 [11, 2, 1] [0] [True, sm (s == 1), True] ⟨trivial, rfl, trivial, trivial⟩ ?_
  refine splitr 11 (x := (s == 1)) (by kernel_rfl) (fun h1 => ?_) (fun h1 => ?_)
  ·
   replace h1 : s = 1 := eq_of_beq h1
   refine rk [(11, .bool (decide (0 ≤ a)))] 5 9 ⟨[(16, .bool (decide (0 ≤ a))), (2, .f), (1, .p 0)], [(0, .cells [.i s, .i a, .i l] 27)], 1⟩ [True, sm (decide (0 ≤ a)), True] ⟨trivial, rfl, trivial, trivial⟩ ?_
   refine splitr 16 (x := (decide (0 ≤ a))) (by kernel_rfl) (fun h2 => ?_) (fun h2 => ?_)
   ·
    replace h2 : 0 ≤ a := of_decide_eq_true h2
    refine rki [(18, .bool (decide (a ≤ l)))] 7 14 [23, 2, 1] [0] [True, True, sm (decide (a ≤ l)), True] ⟨trivial, trivial, rfl, trivial, trivial⟩ ?_
    refine splitr 23 (x := (decide (a ≤ l))) (by kernel_rfl) (fun h3 => ?_) (fun h3 => ?_)
    ·
     replace h3 : a ≤ l := of_decide_eq_true h3
     refine rki [(23, .bool (decide (l ≤ 4096)))] 5 21 [2] [] [True, sm (decide (l ≤ 4096)), True] ⟨trivial, rfl, trivial, trivial⟩ ?_
     refine en ?_
     refine an ?_
     refine xw_ret ?_
     by_cases h4 : l ≤ 4096
     ·
      exact br (.bool (decide (l ≤ 4096))) (.t) (wkd [(decide (l ≤ 4096)) = true] (by kernel_rfl) ⟨(by first | exact decide_eq_true (by omega) | exact decide_eq_false (by omega) | (simp; done) | (simp; omega) | (simp_all; done) | (simp_all; omega) | grind), trivial⟩) (Or.inl <| ⟨(by omega), rfl⟩)
     ·
      exact br (.bool (decide (l ≤ 4096))) (.f) (wkd [(decide (l ≤ 4096)) = false] (by kernel_rfl) ⟨(by first | exact decide_eq_true (by omega) | exact decide_eq_false (by omega) | (simp; done) | (simp; omega) | (simp_all; done) | (simp_all; omega) | grind), trivial⟩) (Or.inr <| ⟨(by omega), rfl⟩)
    ·
     replace h3 : ¬ (a ≤ l) := of_decide_eq_false h3
     refine rki [] 5 21 [2] [] [True] ⟨trivial, trivial⟩ ?_
     refine en ?_
     refine an ?_
     refine xw_ret ?_
     exact bs (.f) (Or.inr <| ⟨(by omega), rfl⟩)
   ·
    replace h2 : ¬ (0 ≤ a) := of_decide_eq_false h2
    refine rki [] 12 14 [2] [] [True, True] ⟨trivial, trivial, trivial⟩ ?_
    refine en ?_
    refine an ?_
    refine xw_ret ?_
    exact bs (.f) (Or.inr <| ⟨(by omega), rfl⟩)
  ·
   replace h1 : s ≠ 1 := ne_of_beq_false h1
   refine rk [] 17 9 ⟨[(2, .f)], [], 1⟩ [True, True, True] ⟨trivial, trivial, trivial, trivial⟩ ?_
   refine en ?_
   refine an ?_
   refine xw_ret ?_
   exact bs (.f) (Or.inr <| ⟨(by omega), rfl⟩)

theorem right_1 (s a l : Int) (hp0 : (s = 0 ∨ s = 1) ∧ 0 ≤ a ∧ a ≤ l ∧ l ≤ 4096) : Pub Try.prog 81 [.agg [.i s, .i a, .i l]] (fun rv => rv = .t) := by
  refine (right s a l ).mono ?_
  rintro _ (⟨g0, rfl⟩ | ⟨g0, rfl⟩)
  all_goals first | rfl | (exfalso; first | omega | grind)

theorem right_2 (s a l : Int) (hp0 : ¬ ((s = 0 ∨ s = 1) ∧ 0 ≤ a ∧ a ≤ l ∧ l ≤ 4096)) : Pub Try.prog 81 [.agg [.i s, .i a, .i l]] (fun rv => rv = .f) := by
  refine (right s a l ).mono ?_
  rintro _ (⟨g0, rfl⟩ | ⟨g0, rfl⟩)
  all_goals first | rfl | (exfalso; first | omega | grind)

theorem rright (s a l : Int) : Pub Try.prog 25 [.agg [.i s, .i a, .i l]] (fun rv => (((s = 0 ∨ s = 1) ∧ 0 ≤ a ∧ a ≤ l ∧ l ≤ 4096) ∧ rv = .t) ∨ ((¬ ((s = 0 ∨ s = 1) ∧ 0 ≤ a ∧ a ≤ l ∧ l ≤ 4096)) ∧ rv = .f)) := by
 refine pub_of TT_ok Try.func25 rfl (by decide) (Nat.le_of_ble_eq_true (by kernel_rfl)) (by kernel_rfl) ?_
 refine rgi [] 2 [2, 1] [0] [] trivial ?_
 refine xw_seq ?_
 refine reg ?_
 refine rki [(2, .bool (decide (0 ≤ s)))] 4 0 [6, 2, 1] [0] [True, sm (decide (0 ≤ s))] ⟨trivial, rfl, trivial⟩ ?_
 refine splitr 6 (x := (decide (0 ≤ s))) (by kernel_rfl) (fun h0 => ?_) (fun h0 => ?_)
 ·
  replace h0 : 0 ≤ s := of_decide_eq_true h0
  refine rki [(6, .bool (decide (s ≤ 1)))] 5 4 [11, 2, 1] [0] [True, sm (decide (s ≤ 1)), True] ⟨trivial, rfl, trivial, trivial⟩ ?_
  refine splitr 11 (x := (decide (s ≤ 1))) (by kernel_rfl) (fun h1 => ?_) (fun h1 => ?_)
  ·
   replace h1 : s ≤ 1 := of_decide_eq_true h1
   refine rk [(11, .bool (decide (0 ≤ a)))] 5 9 ⟨[(16, .bool (decide (0 ≤ a))), (2, .f), (1, .p 0)], [(0, .cells [.i s, .i a, .i l] 27)], 1⟩ [True, sm (decide (0 ≤ a)), True] ⟨trivial, rfl, trivial, trivial⟩ ?_
   refine splitr 16 (x := (decide (0 ≤ a))) (by kernel_rfl) (fun h2 => ?_) (fun h2 => ?_)
   ·
    replace h2 : 0 ≤ a := of_decide_eq_true h2
    refine rki [(18, .bool (decide (a ≤ l)))] 7 14 [23, 2, 1] [0] [True, True, sm (decide (a ≤ l)), True] ⟨trivial, trivial, rfl, trivial, trivial⟩ ?_
    refine splitr 23 (x := (decide (a ≤ l))) (by kernel_rfl) (fun h3 => ?_) (fun h3 => ?_)
    ·
     replace h3 : a ≤ l := of_decide_eq_true h3
     refine rki [(23, .bool (decide (l ≤ 4096)))] 5 21 [2] [] [True, sm (decide (l ≤ 4096)), True] ⟨trivial, rfl, trivial, trivial⟩ ?_
     refine en ?_
     refine an ?_
     refine xw_ret ?_
     by_cases h4 : l ≤ 4096
     ·
      exact br (.bool (decide (l ≤ 4096))) (.t) (wkd [(decide (l ≤ 4096)) = true] (by kernel_rfl) ⟨(by first | exact decide_eq_true (by omega) | exact decide_eq_false (by omega) | (simp; done) | (simp; omega) | (simp_all; done) | (simp_all; omega) | grind), trivial⟩) (Or.inl <| ⟨(by omega), rfl⟩)
     ·
      exact br (.bool (decide (l ≤ 4096))) (.f) (wkd [(decide (l ≤ 4096)) = false] (by kernel_rfl) ⟨(by first | exact decide_eq_true (by omega) | exact decide_eq_false (by omega) | (simp; done) | (simp; omega) | (simp_all; done) | (simp_all; omega) | grind), trivial⟩) (Or.inr <| ⟨(by omega), rfl⟩)
    ·
     replace h3 : ¬ (a ≤ l) := of_decide_eq_false h3
     refine rki [] 5 21 [2] [] [True] ⟨trivial, trivial⟩ ?_
     refine en ?_
     refine an ?_
     refine xw_ret ?_
     exact bs (.f) (Or.inr <| ⟨(by omega), rfl⟩)
   ·
    replace h2 : ¬ (0 ≤ a) := of_decide_eq_false h2
    refine rki [] 12 14 [2] [] [True, True] ⟨trivial, trivial, trivial⟩ ?_
    refine en ?_
    refine an ?_
    refine xw_ret ?_
    exact bs (.f) (Or.inr <| ⟨(by omega), rfl⟩)
  ·
   replace h1 : ¬ (s ≤ 1) := of_decide_eq_false h1
   refine rk [] 17 9 ⟨[(2, .f)], [], 1⟩ [True, True, True] ⟨trivial, trivial, trivial, trivial⟩ ?_
   refine en ?_
   refine an ?_
   refine xw_ret ?_
   exact bs (.f) (Or.inr <| ⟨(by omega), rfl⟩)
 ·
  replace h0 : ¬ (0 ≤ s) := of_decide_eq_false h0
  refine rki [] 22 4 [2] [] [True, True, True, True] ⟨trivial, trivial, trivial, trivial, trivial⟩ ?_
  refine en ?_
  refine an ?_
  refine xw_ret ?_
  exact bs (.f) (Or.inr <| ⟨(by omega), rfl⟩)

theorem rright_1 (s a l : Int) (hp0 : (s = 0 ∨ s = 1) ∧ 0 ≤ a ∧ a ≤ l ∧ l ≤ 4096) : Pub Try.prog 25 [.agg [.i s, .i a, .i l]] (fun rv => rv = .t) := by
  refine (rright s a l ).mono ?_
  rintro _ (⟨g0, rfl⟩ | ⟨g0, rfl⟩)
  all_goals first | rfl | (exfalso; first | omega | grind)

theorem rright_2 (s a l : Int) (hp0 : ¬ ((s = 0 ∨ s = 1) ∧ 0 ≤ a ∧ a ≤ l ∧ l ≤ 4096)) : Pub Try.prog 25 [.agg [.i s, .i a, .i l]] (fun rv => rv = .f) := by
  refine (rright s a l ).mono ?_
  rintro _ (⟨g0, rfl⟩ | ⟨g0, rfl⟩)
  all_goals first | rfl | (exfalso; first | omega | grind)

theorem left (s a l : Int) : Pub Try.prog 64 [.agg [.i s, .i a, .i l]] (fun rv => (((s = 0 ∨ s = 1) ∧ 0 ≤ a ∧ a ≤ l ∧ l ≤ 4096) ∧ rv = .i (l - a)) ∨ ((¬ ((s = 0 ∨ s = 1) ∧ 0 ≤ a ∧ a ≤ l ∧ l ≤ 4096)) ∧ rv = .i 0)) := by
 refine pub_of TT_ok Try.func64 rfl (by decide) (Nat.le_of_ble_eq_true (by kernel_rfl)) (by kernel_rfl) ?_
 refine rgi [] 2 [2, 1] [0] [] trivial ?_
 refine xw_seq ?_
 refine xw_seq ?_
 refine reg ?_
 refine rki [] 1 0 [3, 2, 1] [0] [True] ⟨trivial, trivial⟩ ?_
 by_cases h0 : (s = 0 ∨ s = 1) ∧ 0 ≤ a ∧ a ≤ l ∧ l ≤ 4096
 ·
  refine pc (right_1 s a l ‹_›) ?_
  refine rki [] 1 2 [5, 2, 1] [0] [] trivial ?_
  refine en ?_
  refine an ?_
  refine cf ?_
  refine xw_skip ?_
  refine an ?_
  refine rg [(4, .i (l - a))] 6 ⟨[(2, .i (l - a))], [], 1⟩ [True, True, IntKind.i64.wrap (l - a) = (l - a)] ⟨trivial, trivial, i64_eq (by omega) (by omega), trivial⟩ ?_
  refine xw_ret ?_
  exact bs (.i (l - a)) (Or.inl <| ⟨(by omega), rfl⟩)
 ·
  refine pc (right_2 s a l ‹_›) ?_
  refine rki [] 1 2 [5, 2, 1] [0] [] trivial ?_
  refine en ?_
  refine an ?_
  refine ct ?_
  refine rg [] 1 ⟨[(2, .i 0), (1, .p 0)], [(0, .cells [.i s, .i a, .i l] 27)], 1⟩ [] trivial ?_
  refine xw_ret ?_
  refine an_ret ?_
  exact bs (.i 0) (Or.inr <| ⟨(by omega), rfl⟩)

theorem left_1 (s a l : Int) (hp0 : (s = 0 ∨ s = 1) ∧ 0 ≤ a ∧ a ≤ l ∧ l ≤ 4096) : Pub Try.prog 64 [.agg [.i s, .i a, .i l]] (fun rv => rv = .i (l - a)) := by
  refine (left s a l ).mono ?_
  rintro _ (⟨g0, rfl⟩ | ⟨g0, rfl⟩)
  all_goals first | rfl | (exfalso; first | omega | grind)

theorem take (s a l n : Int) : Pub Try.prog 63 [.agg [.i s, .i a, .i l], .i n] (fun rv => (((s = 0 ∨ s = 1) ∧ 0 ≤ a ∧ a ≤ l ∧ l ≤ 4096) ∧ (1 ≤ n) ∧ (n ≤ l - a) ∧ rv = .tup [.agg [.i s, .i (a + n), .i l], .u ((s + 1) * 4294967296 + a), .i 0]) ∨ (((s = 0 ∨ s = 1) ∧ 0 ≤ a ∧ a ≤ l ∧ l ≤ 4096) ∧ (1 ≤ n) ∧ (l - a < n) ∧ rv = .tup [.agg [.i s, .i a, .i l], .u 0, .i 4]) ∨ ((¬ (((s = 0 ∨ s = 1) ∧ 0 ≤ a ∧ a ≤ l ∧ l ≤ 4096) ∧ 1 ≤ n)) ∧ rv = .tup [.agg [.i s, .i a, .i l], .u 0, .i 1])) := by
 refine pub_of TT_ok Try.func63 rfl (by decide) (Nat.le_of_ble_eq_true (by kernel_rfl)) (by kernel_rfl) ?_
 refine rgi [] 5 [6, 5, 4, 3, 2] [2, 1, 0] [] trivial ?_
 refine rgi [] 1 [7, 6, 5, 4, 3, 2] [2, 1, 0] [] trivial ?_
 refine rgi [] 2 [8, 7, 6, 5, 4, 3, 2] [2, 1, 0] [] trivial ?_
 refine xw_seq ?_
 refine xw_block ?_
 refine xw_seq ?_
 refine xw_block ?_
 refine xw_seq ?_
 refine xw_block ?_
 refine xw_seq ?_
 refine xw_seq ?_
 refine reg ?_
 refine rk [] 1 0 ⟨[(12, .agg [.i s, .i a, .i l]), (8, .fn 80 [] [.p 1, .p 0]), (7, .i 1), (6, .i 0), (5, .u 0), (4, .p 2), (3, .p 1), (2, .p 0)], [(2, .cells [.i 0, .i 0, .i 0] 27), (1, .cells [.i n] 3), (0, .cells [.i s, .i a, .i l] 27)], 3⟩ [True] ⟨trivial, trivial⟩ ?_
 by_cases h0 : (s = 0 ∨ s = 1) ∧ 0 ≤ a ∧ a ≤ l ∧ l ≤ 4096
 ·
  refine pc (right_1 s a l ‹_›) ?_
  refine rki [(4, .bool (decide (1 ≤ n)))] 5 2 [11, 8, 7, 6, 5, 4, 3, 2] [2, 1, 0] [True, sm (decide (1 ≤ n)), True] ⟨trivial, rfl, trivial, trivial⟩ ?_
  refine en ?_
  refine an ?_
  refine xw_cond (b := (decide (1 ≤ n))) (by kernel_rfl) (fun h1 => ?_) (fun h1 => ?_)
  ·
   replace h1 : 1 ≤ n := of_decide_eq_true h1
   refine xw_exit ?_
   refine an_exit ?_
   refine ib_same ?_
   refine an ?_
   refine rgi [] 1 [7, 8, 6, 5, 4, 3, 2] [2, 1, 0] [] trivial ?_
   refine xw_seq ?_
   refine reg ?_
   refine rki [] 1 0 [18, 7, 6, 5, 4, 3, 2] [2, 1, 0] [] trivial ?_
   refine callx (f := 80) (args := [.p 1, .p 0]) (d := (some 19)) (by kernel_rfl) (xcall_of TT_ok Try.func80 rfl (by decide) (Nat.le_of_ble_eq_true (by kernel_rfl)) ?_)
   refine rg [] 1 ⟨[(2, .f), (0, .p 1), (1, .p 0)], [(2, .cells [.i 0, .i 0, .i 0] 27), (1, .cells [.i n] 3), (0, .cells [.i s, .i a, .i l] 27)], 3⟩ [] trivial ?_
   refine xw_seq ?_
   refine dregk hmix (by kernel_rfl) ?_
   refine qri [] 2 0 [True, True] ⟨trivial, trivial, trivial⟩ ?_
   refine qc (left_1 s a l ‹_›) ?_
   refine qri [(3, .bool (decide (n ≤ (l - a))))] 2 3 [sm (decide (n ≤ (l - a)))] ⟨rfl, trivial⟩ ?_
   refine qen ?_
   refine an ?_
   refine xw_ret ?_
   refine ⟨.bool (decide (n ≤ (l - a))), by kernel_rfl, ?_⟩
   refine en ?_
   refine an ?_
   refine xw_cond (b := (decide (n ≤ (l - a)))) (by kernel_rfl) (fun h2 => ?_) (fun h2 => ?_)
   ·
    replace h2 : n ≤ (l - a) := of_decide_eq_true h2
    refine xw_exit ?_
    refine ib_exit (by kernel_rfl) ?_
    refine an_exit ?_
    refine ib_same ?_
    refine an ?_
    refine xw_seq ?_
    refine reg ?_
    refine rk [] 4 0 ⟨[(25, .i a), (23, .i s), (6, .i 0), (5, .u 0), (4, .p 2), (3, .p 1), (2, .p 0)], [(2, .cells [.i 0, .i 0, .i 0] 27), (1, .cells [.i n] 3), (0, .cells [.i s, .i a, .i l] 27)], 3⟩ [True, True] ⟨trivial, trivial, trivial⟩ ?_
    refine pc (addr_1 s a (by omega)) ?_
    refine rki [] 1 5 [9, 6, 5, 4, 3, 2] [2, 1, 0] [] trivial ?_
    refine en ?_
    refine an ?_
    refine rgi [(3, .i (a + n))] 6 [9, 6, 5, 4, 2] [2, 0] [True, True, IntKind.i64.wrap (a + n) = (a + n), True] ⟨trivial, trivial, i64_eq (by omega) (by omega), trivial, trivial⟩ ?_
    refine rgi [] 5 [6, 5, 4] [2] [True, True] ⟨trivial, trivial, trivial⟩ ?_
    refine xw_ret ?_
    exact bs (.tup [.agg [.i s, .i (a + n), .i l], .u ((s + 1) * 4294967296 + a), .i 0]) (Or.inl <| ⟨(by omega), (by omega), (by omega), rfl⟩)
   ·
    replace h2 : ¬ (n ≤ (l - a)) := of_decide_eq_false h2
    refine xw_skip ?_
    refine ib ?_
    refine an ?_
    refine xw_seq ?_
    refine rg [] 5 ⟨[(6, .i 4), (5, .u 0), (4, .p 2), (3, .p 1), (2, .p 0)], [(2, .cells [.i s, .i a, .i l] 27), (1, .cells [.i n] 3), (0, .cells [.i s, .i a, .i l] 27)], 3⟩ [True, True] ⟨trivial, trivial, trivial⟩ ?_
    refine xw_ret ?_
    refine an_ret ?_
    refine ib_ret ?_
    refine an_ret ?_
    exact bs (.tup [.agg [.i s, .i a, .i l], .u 0, .i 4]) (Or.inr <| Or.inl <| ⟨(by omega), (by omega), (by omega), rfl⟩)
  ·
   replace h1 : ¬ (1 ≤ n) := of_decide_eq_false h1
   refine xw_skip ?_
   refine an ?_
   refine xw_exit ?_
   refine ib_exit (by kernel_rfl) ?_
   refine an_exit ?_
   refine ib_same ?_
   refine an ?_
   refine xw_seq ?_
   refine rgi [] 5 [6, 5, 4, 3, 2] [2, 1, 0] [True, True] ⟨trivial, trivial, trivial⟩ ?_
   refine xw_ret ?_
   refine an_ret ?_
   refine ib_ret ?_
   refine an_ret ?_
   exact bs (.tup [.agg [.i s, .i a, .i l], .u 0, .i 1]) (Or.inr <| Or.inr <| ⟨(by omega), rfl⟩)
 ·
  refine pc (right_2 s a l ‹_›) ?_
  refine rki [] 5 2 [11, 8, 7, 6, 5, 4, 3, 2] [2, 1, 0] [True] ⟨trivial, trivial⟩ ?_
  refine en ?_
  refine an ?_
  refine cf ?_
  refine xw_skip ?_
  refine an ?_
  refine xw_exit ?_
  refine ib_exit (by kernel_rfl) ?_
  refine an_exit ?_
  refine ib_same ?_
  refine an ?_
  refine xw_seq ?_
  refine rgi [] 5 [6, 5, 4, 3, 2] [2, 1, 0] [True, True] ⟨trivial, trivial, trivial⟩ ?_
  refine xw_ret ?_
  refine an_ret ?_
  refine ib_ret ?_
  refine an_ret ?_
  exact bs (.tup [.agg [.i s, .i a, .i l], .u 0, .i 1]) (Or.inr <| Or.inr <| ⟨(by omega), rfl⟩)

theorem take_1 (s a l n : Int) (hp0 : (s = 0 ∨ s = 1) ∧ 0 ≤ a ∧ a ≤ l ∧ l ≤ 4096) (hp1 : 1 ≤ n) (hp2 : n ≤ l - a) : Pub Try.prog 63 [.agg [.i s, .i a, .i l], .i n] (fun rv => rv = .tup [.agg [.i s, .i (a + n), .i l], .u ((s + 1) * 4294967296 + a), .i 0]) := by
  refine (take s a l n ).mono ?_
  rintro _ (⟨g0, g1, g2, rfl⟩ | ⟨g0, g1, g2, rfl⟩ | ⟨g0, rfl⟩)
  all_goals first | rfl | (exfalso; first | omega | grind)

theorem take_2 (s a l n : Int) (hp0 : (s = 0 ∨ s = 1) ∧ 0 ≤ a ∧ a ≤ l ∧ l ≤ 4096) (hp1 : 1 ≤ n) (hp2 : l - a < n) : Pub Try.prog 63 [.agg [.i s, .i a, .i l], .i n] (fun rv => rv = .tup [.agg [.i s, .i a, .i l], .u 0, .i 4]) := by
  refine (take s a l n ).mono ?_
  rintro _ (⟨g0, g1, g2, rfl⟩ | ⟨g0, g1, g2, rfl⟩ | ⟨g0, rfl⟩)
  all_goals first | rfl | (exfalso; first | omega | grind)

theorem take_3 (s a l n : Int) (hp0 : ¬ (((s = 0 ∨ s = 1) ∧ 0 ≤ a ∧ a ≤ l ∧ l ≤ 4096) ∧ 1 ≤ n)) : Pub Try.prog 63 [.agg [.i s, .i a, .i l], .i n] (fun rv => rv = .tup [.agg [.i s, .i a, .i l], .u 0, .i 1]) := by
  refine (take s a l n ).mono ?_
  rintro _ (⟨g0, g1, g2, rfl⟩ | ⟨g0, g1, g2, rfl⟩ | ⟨g0, rfl⟩)
  all_goals first | rfl | (exfalso; first | omega | grind)

theorem most (s a l n : Int) : Pub Try.prog 66 [.agg [.i s, .i a, .i l], .i n] (fun rv => (((s = 0 ∨ s = 1) ∧ 0 ≤ a ∧ a ≤ l ∧ l ≤ 4096) ∧ (1 ≤ n) ∧ (n ≤ l - a) ∧ rv = .tup [.agg [.i s, .i (a + n), .i l], .u ((s + 1) * 4294967296 + a), .i n]) ∨ (((s = 0 ∨ s = 1) ∧ 0 ≤ a ∧ a ≤ l ∧ l ≤ 4096) ∧ (l - a < n) ∧ (0 < l - a) ∧ rv = .tup [.agg [.i s, .i l, .i l], .u ((s + 1) * 4294967296 + a), .i (l - a)]) ∨ ((¬ (((s = 0 ∨ s = 1) ∧ 0 ≤ a ∧ a ≤ l ∧ l ≤ 4096) ∧ 1 ≤ n ∧ 0 < l - a)) ∧ rv = .tup [.agg [.i s, .i a, .i l], .u 0, .i 0])) := by
 refine pub_of TT_ok Try.func66 rfl (by decide) (Nat.le_of_ble_eq_true (by kernel_rfl)) (by kernel_rfl) ?_
 refine rgi [] 4 [6, 5, 4, 2, 1] [1, 0] [] trivial ?_
 refine xw_scope (α := {q : Int // ((s = 0 ∨ s = 1) ∧ 0 ≤ a ∧ a ≤ l ∧ l ≤ 4096) ∧ (q = l - a) ∧ (0 < q) ∧ (l - a < n)}) 0 rfl (fun p => ⟨[(6, .i 0), (5, .u 0), (4, .p 1), (2, .p 0), (1, .i p.1)], [(1, .cells [.i 0, .i 0, .i 0] 27), (0, .cells [.i s, .i a, .i l] 27)], 2⟩) (fun p => 0) ?_ ?_
 ·
  refine xw_seq ?_
  refine xw_label ?_
  refine an ?_
  refine xw_seq ?_
  refine reg ?_
  refine rki [] 2 0 [12, 11, 6, 5, 4, 2, 1] [1, 0] [True] ⟨trivial, trivial⟩ ?_
  by_cases h0 : ((s = 0 ∨ s = 1) ∧ 0 ≤ a ∧ a ≤ l ∧ l ≤ 4096) ∧ (1 ≤ n) ∧ (n ≤ l - a)
  ·
   refine pc (take_1 s a l n (by omega) (by omega) (by omega)) ?_
   refine rki [] 8 3 [9, 8, 7, 16, 15, 14, 10, 13, 12, 11, 6, 5, 4, 2, 1] [2, 1, 0] [True] ⟨trivial, trivial⟩ ?_
   refine en ?_
   refine an ?_
   refine xw_seq ?_
   refine rg [(1, .f)] 7 ⟨[(23, .f), (22, .tup []), (21, .tup []), (20, .tup []), (19, .f), (18, .f), (17, .i 0), (9, .i 0), (8, .u ((s + 1) * 4294967296 + a)), (7, .p 2), (16, .i 0), (15, .u ((s + 1) * 4294967296 + a)), (14, .agg [.i s, .i (a + n), .i l]), (10, .tup [.agg [.i s, .i (a + n), .i l], .u ((s + 1) * 4294967296 + a), .i 0]), (13, .tup [.agg [.i s, .i (a + n), .i l], .u ((s + 1) * 4294967296 + a), .i 0]), (12, .i n), (11, .agg [.i s, .i a, .i l]), (6, .i 0), (5, .u 0), (4, .p 1), (2, .p 0), (1, .i n)], [(2, .cells [.i s, .i (a + n), .i l] 27), (1, .cells [.i 0, .i 0, .i 0] 27), (0, .cells [.i s, .i a, .i l] 27)], 3⟩ [(0 == 4) = false, True] ⟨beq_eq_false_iff_ne.2 (by omega), trivial, trivial⟩ ?_
   refine cf ?_
   refine xw_skip ?_
   refine an ?_
   refine xw_seq ?_
   refine rgi [(1, .f)] 2 [27, 26, 23, 22, 21, 20, 19, 18, 17, 9, 8, 7, 16, 15, 14, 10, 13, 12, 11, 6, 5, 4, 2, 1] [2, 1, 0] [(0 != 0) = false] ⟨bne_eq_false_iff_eq.2 (by omega), trivial⟩ ?_
   refine cf ?_
   refine xw_skip ?_
   refine an ?_
   refine rgi [] 6 [6, 5, 31, 30, 29, 27, 26, 23, 22, 21, 20, 19, 18, 17, 9, 8, 7, 16, 15, 14, 10, 13, 12, 11, 4, 2, 1] [2, 1, 0] [True, True] ⟨trivial, trivial, trivial⟩ ?_
   refine xw_ret ?_
   refine j0_ret ?_
   exact bs (.tup [.agg [.i s, .i (a + n), .i l], .u ((s + 1) * 4294967296 + a), .i n]) (Or.inl <| ⟨(by omega), (by omega), (by omega), rfl⟩)
  ·
   by_cases h1 : ((s = 0 ∨ s = 1) ∧ 0 ≤ a ∧ a ≤ l ∧ l ≤ 4096) ∧ (1 ≤ n) ∧ (l - a < n)
   ·
    refine pc (take_2 s a l n (by omega) (by omega) (by omega)) ?_
    refine rki [] 8 3 [9, 8, 7, 16, 15, 14, 10, 13, 12, 11, 6, 5, 4, 2, 1] [2, 1, 0] [True] ⟨trivial, trivial⟩ ?_
    refine en ?_
    refine an ?_
    refine xw_seq ?_
    refine xw_seq ?_
    refine reg ?_
    refine rk [(1, .t)] 4 0 ⟨[(20, .agg [.i s, .i a, .i l]), (19, .t), (18, .t), (17, .i 4), (9, .i 4), (8, .u 0), (7, .p 2), (16, .i 4), (15, .u 0), (14, .agg [.i s, .i a, .i l]), (10, .tup [.agg [.i s, .i a, .i l], .u 0, .i 4]), (13, .tup [.agg [.i s, .i a, .i l], .u 0, .i 4]), (12, .i n), (11, .agg [.i s, .i a, .i l]), (6, .i 0), (5, .u 0), (4, .p 1), (2, .p 0), (1, .i n)], [(2, .cells [.i s, .i a, .i l] 27), (1, .cells [.i 0, .i 0, .i 0] 27), (0, .cells [.i s, .i a, .i l] 27)], 3⟩ [(4 == 4) = true, True] ⟨beq_iff_eq.2 (by omega), trivial, trivial⟩ ?_
    refine pc (left_1 s a l (by omega)) ?_
    refine rki [(5, .bool (decide (0 < (l - a))))] 2 5 [23, 22, 21, 20, 19, 18, 17, 9, 8, 7, 16, 15, 14, 10, 13, 12, 11, 6, 5, 4, 2, 1] [2, 1, 0] [sm (decide (0 < (l - a))), True] ⟨rfl, trivial, trivial⟩ ?_
    refine en ?_
    refine an ?_
    refine xw_cond (b := (decide (0 < (l - a)))) (by kernel_rfl) (fun h2 => ?_) (fun h2 => ?_)
    ·
     replace h2 : 0 < (l - a) := of_decide_eq_true h2
     refine xw_seq ?_
     refine reg ?_
     refine rki [] 1 0 [24, 23, 22, 21, 20, 19, 18, 17, 9, 8, 7, 16, 15, 14, 10, 13, 12, 11, 6, 5, 4, 2, 1] [2, 1, 0] [True] ⟨trivial, trivial⟩ ?_
     refine pc (left_1 s a l (by omega)) ?_
     refine rki [] 1 2 [1, 25, 24, 23, 22, 21, 20, 19, 18, 17, 9, 8, 7, 16, 15, 14, 10, 13, 12, 11, 6, 5, 4, 2] [2, 1, 0] [] trivial ?_
     refine en ?_
     refine an ?_
     refine xw_goto ?_
     refine an_goto ?_
     exact j0_goto ⟨(l - a), ⟨(by omega), (by omega), (by omega), (by omega)⟩⟩ (le_of [] [(0 : Int) = 0, (0 : Int) = 0, ((l - a) : Int) = (l - a), (0 : Int) = 0, (0 : Int) = 0, (0 : Int) = 0, (s : Int) = s, (a : Int) = a, (l : Int) = l] (by kernel_rfl) ⟨rfl, rfl, rfl, rfl, rfl, rfl, rfl, rfl, rfl, trivial⟩)
    ·
     replace h2 : ¬ (0 < (l - a)) := of_decide_eq_false h2
     refine xw_skip ?_
     refine an ?_
     refine xw_seq ?_
     refine rgi [(1, .t)] 2 [27, 26, 23, 22, 21, 20, 19, 18, 17, 9, 8, 7, 16, 15, 14, 10, 13, 12, 11, 6, 5, 4, 2, 1] [2, 1, 0] [(4 != 0) = true] ⟨bne_iff_ne.2 (by omega), trivial⟩ ?_
     refine ct ?_
     refine rgi [] 4 [6, 5, 28, 27, 26, 23, 22, 21, 20, 19, 18, 17, 9, 8, 7, 16, 15, 14, 10, 13, 12, 11, 4, 2, 1] [2, 1, 0] [True, True] ⟨trivial, trivial, trivial⟩ ?_
     refine xw_ret ?_
     refine an_ret ?_
     refine j0_ret ?_
     exact bs (.tup [.agg [.i s, .i a, .i l], .u 0, .i 0]) (Or.inr <| Or.inr <| ⟨(by omega), rfl⟩)
   ·
    refine pc (take_3 s a l n (by omega)) ?_
    refine rki [] 8 3 [9, 8, 7, 16, 15, 14, 10, 13, 12, 11, 6, 5, 4, 2, 1] [2, 1, 0] [True] ⟨trivial, trivial⟩ ?_
    refine en ?_
    refine an ?_
    refine xw_seq ?_
    refine rg [(1, .f)] 7 ⟨[(23, .f), (22, .tup []), (21, .tup []), (20, .tup []), (19, .f), (18, .f), (17, .i 1), (9, .i 1), (8, .u 0), (7, .p 2), (16, .i 1), (15, .u 0), (14, .agg [.i s, .i a, .i l]), (10, .tup [.agg [.i s, .i a, .i l], .u 0, .i 1]), (13, .tup [.agg [.i s, .i a, .i l], .u 0, .i 1]), (12, .i n), (11, .agg [.i s, .i a, .i l]), (6, .i 0), (5, .u 0), (4, .p 1), (2, .p 0), (1, .i n)], [(2, .cells [.i s, .i a, .i l] 27), (1, .cells [.i 0, .i 0, .i 0] 27), (0, .cells [.i s, .i a, .i l] 27)], 3⟩ [(1 == 4) = false, True] ⟨beq_eq_false_iff_ne.2 (by omega), trivial, trivial⟩ ?_
    refine cf ?_
    refine xw_skip ?_
    refine an ?_
    refine xw_seq ?_
    refine rgi [(1, .t)] 2 [27, 26, 23, 22, 21, 20, 19, 18, 17, 9, 8, 7, 16, 15, 14, 10, 13, 12, 11, 6, 5, 4, 2, 1] [2, 1, 0] [(1 != 0) = true] ⟨bne_iff_ne.2 (by omega), trivial⟩ ?_
    refine ct ?_
    refine rgi [] 4 [6, 5, 28, 27, 26, 23, 22, 21, 20, 19, 18, 17, 9, 8, 7, 16, 15, 14, 10, 13, 12, 11, 4, 2, 1] [2, 1, 0] [True, True] ⟨trivial, trivial, trivial⟩ ?_
    refine xw_ret ?_
    refine an_ret ?_
    refine j0_ret ?_
    exact bs (.tup [.agg [.i s, .i a, .i l], .u 0, .i 0]) (Or.inr <| Or.inr <| ⟨(by omega), rfl⟩)
 ·
  rintro ⟨k, h0, h1, h2, h3⟩
  show XW _ _ _ _ _ _ ⟨[(6, .int .i64 0), (5, .int .u64 0), (4, .loc 1 0), (2, .loc 0 0), (1, .int .i64 k)], [(1, .cells [.int .i64 0, .int .i64 0, .int .i64 0] 27), (0, .cells [.int .i64 s, .int .i64 a, .int .i64 l] 27)], 2⟩
  refine xw_seq ?_
  refine xw_skip ?_
  refine an ?_
  refine xw_seq ?_
  refine reg ?_
  refine rki [] 2 0 [12, 11, 6, 5, 4, 2, 1] [1, 0] [True] ⟨trivial, trivial⟩ ?_
  refine pc (take_1 s a l k ‹_› (by omega) (by omega)) ?_
  refine rki [] 8 3 [9, 8, 7, 16, 15, 14, 10, 13, 12, 11, 6, 5, 4, 2, 1] [2, 1, 0] [True] ⟨trivial, trivial⟩ ?_
  refine en ?_
  refine an ?_
  refine xw_seq ?_
  refine rgi [(1, .f)] 7 [23, 22, 21, 20, 19, 18, 17, 9, 8, 7, 16, 15, 14, 10, 13, 12, 11, 6, 5, 4, 2, 1] [2, 1, 0] [(0 == 4) = false, True] ⟨beq_eq_false_iff_ne.2 (by omega), trivial, trivial⟩ ?_
  refine cf ?_
  refine xw_skip ?_
  refine an ?_
  refine xw_seq ?_
  refine rg [(1, .f)] 2 ⟨[(27, .f), (26, .i 0), (23, .f), (22, .tup []), (21, .tup []), (20, .tup []), (19, .f), (18, .f), (17, .i 0), (9, .i 0), (8, .u ((s + 1) * 4294967296 + a)), (7, .p 2), (16, .i 0), (15, .u ((s + 1) * 4294967296 + a)), (14, .agg [.i s, .i (a + k), .i l]), (10, .tup [.agg [.i s, .i (a + k), .i l], .u ((s + 1) * 4294967296 + a), .i 0]), (13, .tup [.agg [.i s, .i (a + k), .i l], .u ((s + 1) * 4294967296 + a), .i 0]), (12, .i k), (11, .agg [.i s, .i a, .i l]), (6, .i 0), (5, .u 0), (4, .p 1), (2, .p 0), (1, .i k)], [(2, .cells [.i s, .i (a + k), .i l] 27), (1, .cells [.i 0, .i 0, .i 0] 27), (0, .cells [.i s, .i a, .i l] 27)], 3⟩ [(0 != 0) = false] ⟨bne_eq_false_iff_eq.2 (by omega), trivial⟩ ?_
  refine cf ?_
  refine xw_skip ?_
  refine an ?_
  refine rgi [] 6 [6, 5, 31, 30, 29, 27, 26, 23, 22, 21, 20, 19, 18, 17, 9, 8, 7, 16, 15, 14, 10, 13, 12, 11, 4, 2, 1] [2, 1, 0] [True, True] ⟨trivial, trivial, trivial⟩ ?_
  refine xw_ret ?_
  refine j1_ret ?_
  exact br (.tup [.agg [.i s, .i (a + k), .i l], .u ((s + 1) * 4294967296 + a), .i k]) (.tup [.agg [.i s, .i l, .i l], .u ((s + 1) * 4294967296 + a), .i (l - a)]) (wkd [(s : Int) = s, ((a + k) : Int) = l, (l : Int) = l, (((s + 1) * 4294967296 + a) : Int) = ((s + 1) * 4294967296 + a), (k : Int) = (l - a)] (by kernel_rfl) ⟨rfl, (by omega), rfl, rfl, (by omega), trivial⟩) (Or.inr <| Or.inl <| ⟨(by omega), (by omega), (by omega), rfl⟩)

theorem most_1 (s a l n : Int) (hp0 : (s = 0 ∨ s = 1) ∧ 0 ≤ a ∧ a ≤ l ∧ l ≤ 4096) (hp1 : 1 ≤ n) (hp2 : n ≤ l - a) : Pub Try.prog 66 [.agg [.i s, .i a, .i l], .i n] (fun rv => rv = .tup [.agg [.i s, .i (a + n), .i l], .u ((s + 1) * 4294967296 + a), .i n]) := by
  refine (most s a l n ).mono ?_
  rintro _ (⟨g0, g1, g2, rfl⟩ | ⟨g0, g1, g2, rfl⟩ | ⟨g0, rfl⟩)
  all_goals first | rfl | (exfalso; first | omega | grind)

theorem most_2 (s a l n : Int) (hp0 : (s = 0 ∨ s = 1) ∧ 0 ≤ a ∧ a ≤ l ∧ l ≤ 4096) (hp1 : l - a < n) (hp2 : 0 < l - a) : Pub Try.prog 66 [.agg [.i s, .i a, .i l], .i n] (fun rv => rv = .tup [.agg [.i s, .i l, .i l], .u ((s + 1) * 4294967296 + a), .i (l - a)]) := by
  refine (most s a l n ).mono ?_
  rintro _ (⟨g0, g1, g2, rfl⟩ | ⟨g0, g1, g2, rfl⟩ | ⟨g0, rfl⟩)
  all_goals first | rfl | (exfalso; first | omega | grind)

end Go.Proofs.Ytjchmajamlehmaa.X
