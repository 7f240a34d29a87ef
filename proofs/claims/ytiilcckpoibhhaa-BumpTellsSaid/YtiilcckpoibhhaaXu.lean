/- Contracts of Go functions: what each returns, for every input that its premises name; no memory of the caller is touched. Printed by a program. -/
import Derived.Test.YtiilcckpoibhhaaXt
namespace Go.Proofs.Ytiilcckpoibhhaa.X
open Go Go.RowKit
set_option linter.unusedVariables false      -- a premise may serve only to tell which way is taken
theorem right (s : Int) (a : Int) (l : Int) : Pub Try.prog 18 [.agg [.int .i64 s, .int .i64 a, .int .i64 l]] (fun t => (((s = 0 ∨ s = 1) ∧ 0 ≤ a ∧ a ≤ l ∧ l ≤ 4096) ∧ t = .bool true) ∨ ((¬ ((s = 0 ∨ s = 1) ∧ 0 ≤ a ∧ a ≤ l ∧ l ≤ 4096)) ∧ t = .bool false)) := by
  refine pub_of TT_ok Try.func18 rfl (by decide) (Nat.le_of_ble_eq_true (by kernel_rfl)) (by kernel_rfl) ?_
  refine xw_seq ?_
  refine reg ?_
  refine runk TT_ok [] 2 0 [2, 1] [0] ⟨[(2, .bool false), (1, .loc 0 0)], [(0, .cells [.int .i64 s, .int .i64 a, .int .i64 l] 23)], 1⟩ [] (by kernel_rfl) trivial ?_
  refine endr (by kernel_rfl) ?_
  refine an ?_
  refine xw_seq ?_
  refine reg ?_
  refine runk TT_ok [(2, .bool (s == 0))] 4 0 [6, 2, 1] [0] ⟨[(6, .bool (s == 0)), (2, .bool false), (1, .loc 0 0)], [(0, .cells [.int .i64 s, .int .i64 a, .int .i64 l] 23)], 1⟩ [True, (s == 0) = (s == 0)] (by kernel_rfl) ⟨trivial, rfl, trivial⟩ ?_
  refine splitr 6 (x := (s == 0)) (by kernel_rfl) (fun h0 => ?_) (fun h0 => ?_)
  · replace h0 : s = 0 := eq_of_beq h0
    refine runk TT_ok [(11, .bool (decide (0 ≤ a)))] 10 4 [16, 2, 1] [0] ⟨[(16, .bool (decide (0 ≤ a))), (2, .bool false), (1, .loc 0 0)], [(0, .cells [.int .i64 s, .int .i64 a, .int .i64 l] 23)], 1⟩ [True, True, (decide (0 ≤ a)) = (decide (0 ≤ a)), True] (by kernel_rfl) ⟨trivial, trivial, rfl, trivial, trivial⟩ ?_
    refine splitr 16 (x := (decide (0 ≤ a))) (by kernel_rfl) (fun h1 => ?_) (fun h1 => ?_)
    · replace h1 : 0 ≤ a := of_decide_eq_true h1
      refine runk TT_ok [(18, .bool (decide (a ≤ l)))] 7 14 [23, 2, 1] [0] ⟨[(23, .bool (decide (a ≤ l))), (2, .bool false), (1, .loc 0 0)], [(0, .cells [.int .i64 s, .int .i64 a, .int .i64 l] 23)], 1⟩ [True, True, (decide (a ≤ l)) = (decide (a ≤ l)), True] (by kernel_rfl) ⟨trivial, trivial, rfl, trivial, trivial⟩ ?_
      refine splitr 23 (x := (decide (a ≤ l))) (by kernel_rfl) (fun h2 => ?_) (fun h2 => ?_)
      · replace h2 : a ≤ l := of_decide_eq_true h2
        refine runk TT_ok [(23, .bool (decide (l ≤ 4096)))] 5 21 [2] [] ⟨[(2, .bool (decide (l ≤ 4096)))], [], 1⟩ [True, (decide (l ≤ 4096)) = (decide (l ≤ 4096)), True] (by kernel_rfl) ⟨trivial, rfl, trivial, trivial⟩ ?_
        refine endr (by kernel_rfl) ?_
        refine an ?_
        refine xw_ret ?_
        by_cases h3 : l ≤ 4096
        · skip
          exact bk_ret (.bool (decide (l ≤ 4096))) (.bool (decide (l ≤ 4096))) (.bool true) (by kernel_rfl) (by kernel_rfl) (wkd [(decide (l ≤ 4096)) = true] (by kernel_rfl) ⟨(by first | exact decide_eq_true (by omega) | exact decide_eq_false (by omega) | (simp; done) | (simp; omega) | simp_all | grind), trivial⟩) (Or.inl <| ⟨(by omega), rfl⟩)
        · skip
          exact bk_ret (.bool (decide (l ≤ 4096))) (.bool (decide (l ≤ 4096))) (.bool false) (by kernel_rfl) (by kernel_rfl) (wkd [(decide (l ≤ 4096)) = false] (by kernel_rfl) ⟨(by first | exact decide_eq_true (by omega) | exact decide_eq_false (by omega) | (simp; done) | (simp; omega) | simp_all | grind), trivial⟩) (Or.inr <| ⟨(by omega), rfl⟩)
      · replace h2 : ¬ (a ≤ l) := of_decide_eq_false h2
        refine runk TT_ok [] 5 21 [2] [] ⟨[(2, .bool false)], [], 1⟩ [True] (by kernel_rfl) ⟨trivial, trivial⟩ ?_
        refine endr (by kernel_rfl) ?_
        refine an ?_
        refine xw_ret ?_
        exact bk_ret (.bool false) (.bool false) (.bool false) (by kernel_rfl) (by kernel_rfl) (wkd [false = false] (by kernel_rfl) ⟨rfl, trivial⟩) (Or.inr <| ⟨(by omega), rfl⟩)
    · replace h1 : ¬ (0 ≤ a) := of_decide_eq_false h1
      refine runk TT_ok [] 12 14 [2] [] ⟨[(2, .bool false)], [], 1⟩ [True, True] (by kernel_rfl) ⟨trivial, trivial, trivial⟩ ?_
      refine endr (by kernel_rfl) ?_
      refine an ?_
      refine xw_ret ?_
      exact bk_ret (.bool false) (.bool false) (.bool false) (by kernel_rfl) (by kernel_rfl) (wkd [false = false] (by kernel_rfl) ⟨rfl, trivial⟩) (Or.inr <| ⟨(by omega), rfl⟩)
  · replace h0 : s ≠ 0 := ne_of_beq_false h0
    refine runk TT_ok [(6, .bool (s == 1))] 5 4 [11, 2, 1] [0] ⟨[(11, .bool (s == 1)), (2, .bool false), (1, .loc 0 0)], [(0, .cells [.int .i64 s, .int .i64 a, .int .i64 l] 23)], 1⟩ [True, (s == 1) = (s == 1), True] (by kernel_rfl) ⟨trivial, rfl, trivial, trivial⟩ ?_
    refine splitr 11 (x := (s == 1)) (by kernel_rfl) (fun h1 => ?_) (fun h1 => ?_)
    · replace h1 : s = 1 := eq_of_beq h1
      refine runk TT_ok [(11, .bool (decide (0 ≤ a)))] 5 9 [16, 2, 1] [0] ⟨[(16, .bool (decide (0 ≤ a))), (2, .bool false), (1, .loc 0 0)], [(0, .cells [.int .i64 s, .int .i64 a, .int .i64 l] 23)], 1⟩ [True, (decide (0 ≤ a)) = (decide (0 ≤ a)), True] (by kernel_rfl) ⟨trivial, rfl, trivial, trivial⟩ ?_
      refine splitr 16 (x := (decide (0 ≤ a))) (by kernel_rfl) (fun h2 => ?_) (fun h2 => ?_)
      · replace h2 : 0 ≤ a := of_decide_eq_true h2
        refine runk TT_ok [(18, .bool (decide (a ≤ l)))] 7 14 [23, 2, 1] [0] ⟨[(23, .bool (decide (a ≤ l))), (2, .bool false), (1, .loc 0 0)], [(0, .cells [.int .i64 s, .int .i64 a, .int .i64 l] 23)], 1⟩ [True, True, (decide (a ≤ l)) = (decide (a ≤ l)), True] (by kernel_rfl) ⟨trivial, trivial, rfl, trivial, trivial⟩ ?_
        refine splitr 23 (x := (decide (a ≤ l))) (by kernel_rfl) (fun h3 => ?_) (fun h3 => ?_)
        · replace h3 : a ≤ l := of_decide_eq_true h3
          refine runk TT_ok [(23, .bool (decide (l ≤ 4096)))] 5 21 [2] [] ⟨[(2, .bool (decide (l ≤ 4096)))], [], 1⟩ [True, (decide (l ≤ 4096)) = (decide (l ≤ 4096)), True] (by kernel_rfl) ⟨trivial, rfl, trivial, trivial⟩ ?_
          refine endr (by kernel_rfl) ?_
          refine an ?_
          refine xw_ret ?_
          by_cases h4 : l ≤ 4096
          · skip
            exact bk_ret (.bool (decide (l ≤ 4096))) (.bool (decide (l ≤ 4096))) (.bool true) (by kernel_rfl) (by kernel_rfl) (wkd [(decide (l ≤ 4096)) = true] (by kernel_rfl) ⟨(by first | exact decide_eq_true (by omega) | exact decide_eq_false (by omega) | (simp; done) | (simp; omega) | simp_all | grind), trivial⟩) (Or.inl <| ⟨(by omega), rfl⟩)
          · skip
            exact bk_ret (.bool (decide (l ≤ 4096))) (.bool (decide (l ≤ 4096))) (.bool false) (by kernel_rfl) (by kernel_rfl) (wkd [(decide (l ≤ 4096)) = false] (by kernel_rfl) ⟨(by first | exact decide_eq_true (by omega) | exact decide_eq_false (by omega) | (simp; done) | (simp; omega) | simp_all | grind), trivial⟩) (Or.inr <| ⟨(by omega), rfl⟩)
        · replace h3 : ¬ (a ≤ l) := of_decide_eq_false h3
          refine runk TT_ok [] 5 21 [2] [] ⟨[(2, .bool false)], [], 1⟩ [True] (by kernel_rfl) ⟨trivial, trivial⟩ ?_
          refine endr (by kernel_rfl) ?_
          refine an ?_
          refine xw_ret ?_
          exact bk_ret (.bool false) (.bool false) (.bool false) (by kernel_rfl) (by kernel_rfl) (wkd [false = false] (by kernel_rfl) ⟨rfl, trivial⟩) (Or.inr <| ⟨(by omega), rfl⟩)
      · replace h2 : ¬ (0 ≤ a) := of_decide_eq_false h2
        refine runk TT_ok [] 12 14 [2] [] ⟨[(2, .bool false)], [], 1⟩ [True, True] (by kernel_rfl) ⟨trivial, trivial, trivial⟩ ?_
        refine endr (by kernel_rfl) ?_
        refine an ?_
        refine xw_ret ?_
        exact bk_ret (.bool false) (.bool false) (.bool false) (by kernel_rfl) (by kernel_rfl) (wkd [false = false] (by kernel_rfl) ⟨rfl, trivial⟩) (Or.inr <| ⟨(by omega), rfl⟩)
    · replace h1 : s ≠ 1 := ne_of_beq_false h1
      refine runk TT_ok [] 17 9 [2] [] ⟨[(2, .bool false)], [], 1⟩ [True, True, True] (by kernel_rfl) ⟨trivial, trivial, trivial, trivial⟩ ?_
      refine endr (by kernel_rfl) ?_
      refine an ?_
      refine xw_ret ?_
      exact bk_ret (.bool false) (.bool false) (.bool false) (by kernel_rfl) (by kernel_rfl) (wkd [false = false] (by kernel_rfl) ⟨rfl, trivial⟩) (Or.inr <| ⟨(by omega), rfl⟩)

theorem right_1 (s : Int) (a : Int) (l : Int) (hp0 : (s = 0 ∨ s = 1) ∧ 0 ≤ a ∧ a ≤ l ∧ l ≤ 4096) : Pub Try.prog 18 [.agg [.int .i64 s, .int .i64 a, .int .i64 l]] (fun t => t = .bool true) := by
  refine (right s a l ).mono ?_
  rintro _ (⟨g0, rfl⟩ | ⟨g0, rfl⟩)
  · rfl
  · exfalso; first | omega | grind

theorem right_2 (s : Int) (a : Int) (l : Int) (hp0 : ¬ ((s = 0 ∨ s = 1) ∧ 0 ≤ a ∧ a ≤ l ∧ l ≤ 4096)) : Pub Try.prog 18 [.agg [.int .i64 s, .int .i64 a, .int .i64 l]] (fun t => t = .bool false) := by
  refine (right s a l ).mono ?_
  rintro _ (⟨g0, rfl⟩ | ⟨g0, rfl⟩)
  · exfalso; first | omega | grind
  · rfl

theorem rright (s : Int) (a : Int) (l : Int) : Pub Try.prog 23 [.agg [.int .i64 s, .int .i64 a, .int .i64 l]] (fun t => (((s = 0 ∨ s = 1) ∧ 0 ≤ a ∧ a ≤ l ∧ l ≤ 4096) ∧ t = .bool true) ∨ ((¬ ((s = 0 ∨ s = 1) ∧ 0 ≤ a ∧ a ≤ l ∧ l ≤ 4096)) ∧ t = .bool false)) := by
  refine pub_of TT_ok Try.func23 rfl (by decide) (Nat.le_of_ble_eq_true (by kernel_rfl)) (by kernel_rfl) ?_
  refine xw_seq ?_
  refine reg ?_
  refine runk TT_ok [] 2 0 [2, 1] [0] ⟨[(2, .bool false), (1, .loc 0 0)], [(0, .cells [.int .i64 s, .int .i64 a, .int .i64 l] 23)], 1⟩ [] (by kernel_rfl) trivial ?_
  refine endr (by kernel_rfl) ?_
  refine an ?_
  refine xw_seq ?_
  refine reg ?_
  refine runk TT_ok [(2, .bool (decide (0 ≤ s)))] 4 0 [6, 2, 1] [0] ⟨[(6, .bool (decide (0 ≤ s))), (2, .bool false), (1, .loc 0 0)], [(0, .cells [.int .i64 s, .int .i64 a, .int .i64 l] 23)], 1⟩ [True, (decide (0 ≤ s)) = (decide (0 ≤ s))] (by kernel_rfl) ⟨trivial, rfl, trivial⟩ ?_
  refine splitr 6 (x := (decide (0 ≤ s))) (by kernel_rfl) (fun h0 => ?_) (fun h0 => ?_)
  · replace h0 : 0 ≤ s := of_decide_eq_true h0
    refine runk TT_ok [(6, .bool (decide (s ≤ 1)))] 5 4 [11, 2, 1] [0] ⟨[(11, .bool (decide (s ≤ 1))), (2, .bool false), (1, .loc 0 0)], [(0, .cells [.int .i64 s, .int .i64 a, .int .i64 l] 23)], 1⟩ [True, (decide (s ≤ 1)) = (decide (s ≤ 1)), True] (by kernel_rfl) ⟨trivial, rfl, trivial, trivial⟩ ?_
    refine splitr 11 (x := (decide (s ≤ 1))) (by kernel_rfl) (fun h1 => ?_) (fun h1 => ?_)
    · replace h1 : s ≤ 1 := of_decide_eq_true h1
      refine runk TT_ok [(11, .bool (decide (0 ≤ a)))] 5 9 [16, 2, 1] [0] ⟨[(16, .bool (decide (0 ≤ a))), (2, .bool false), (1, .loc 0 0)], [(0, .cells [.int .i64 s, .int .i64 a, .int .i64 l] 23)], 1⟩ [True, (decide (0 ≤ a)) = (decide (0 ≤ a)), True] (by kernel_rfl) ⟨trivial, rfl, trivial, trivial⟩ ?_
      refine splitr 16 (x := (decide (0 ≤ a))) (by kernel_rfl) (fun h2 => ?_) (fun h2 => ?_)
      · replace h2 : 0 ≤ a := of_decide_eq_true h2
        refine runk TT_ok [(18, .bool (decide (a ≤ l)))] 7 14 [23, 2, 1] [0] ⟨[(23, .bool (decide (a ≤ l))), (2, .bool false), (1, .loc 0 0)], [(0, .cells [.int .i64 s, .int .i64 a, .int .i64 l] 23)], 1⟩ [True, True, (decide (a ≤ l)) = (decide (a ≤ l)), True] (by kernel_rfl) ⟨trivial, trivial, rfl, trivial, trivial⟩ ?_
        refine splitr 23 (x := (decide (a ≤ l))) (by kernel_rfl) (fun h3 => ?_) (fun h3 => ?_)
        · replace h3 : a ≤ l := of_decide_eq_true h3
          refine runk TT_ok [(23, .bool (decide (l ≤ 4096)))] 5 21 [2] [] ⟨[(2, .bool (decide (l ≤ 4096)))], [], 1⟩ [True, (decide (l ≤ 4096)) = (decide (l ≤ 4096)), True] (by kernel_rfl) ⟨trivial, rfl, trivial, trivial⟩ ?_
          refine endr (by kernel_rfl) ?_
          refine an ?_
          refine xw_ret ?_
          by_cases h4 : l ≤ 4096
          · skip
            exact bk_ret (.bool (decide (l ≤ 4096))) (.bool (decide (l ≤ 4096))) (.bool true) (by kernel_rfl) (by kernel_rfl) (wkd [(decide (l ≤ 4096)) = true] (by kernel_rfl) ⟨(by first | exact decide_eq_true (by omega) | exact decide_eq_false (by omega) | (simp; done) | (simp; omega) | simp_all | grind), trivial⟩) (Or.inl <| ⟨(by omega), rfl⟩)
          · skip
            exact bk_ret (.bool (decide (l ≤ 4096))) (.bool (decide (l ≤ 4096))) (.bool false) (by kernel_rfl) (by kernel_rfl) (wkd [(decide (l ≤ 4096)) = false] (by kernel_rfl) ⟨(by first | exact decide_eq_true (by omega) | exact decide_eq_false (by omega) | (simp; done) | (simp; omega) | simp_all | grind), trivial⟩) (Or.inr <| ⟨(by omega), rfl⟩)
        · replace h3 : ¬ (a ≤ l) := of_decide_eq_false h3
          refine runk TT_ok [] 5 21 [2] [] ⟨[(2, .bool false)], [], 1⟩ [True] (by kernel_rfl) ⟨trivial, trivial⟩ ?_
          refine endr (by kernel_rfl) ?_
          refine an ?_
          refine xw_ret ?_
          exact bk_ret (.bool false) (.bool false) (.bool false) (by kernel_rfl) (by kernel_rfl) (wkd [false = false] (by kernel_rfl) ⟨rfl, trivial⟩) (Or.inr <| ⟨(by omega), rfl⟩)
      · replace h2 : ¬ (0 ≤ a) := of_decide_eq_false h2
        refine runk TT_ok [] 12 14 [2] [] ⟨[(2, .bool false)], [], 1⟩ [True, True] (by kernel_rfl) ⟨trivial, trivial, trivial⟩ ?_
        refine endr (by kernel_rfl) ?_
        refine an ?_
        refine xw_ret ?_
        exact bk_ret (.bool false) (.bool false) (.bool false) (by kernel_rfl) (by kernel_rfl) (wkd [false = false] (by kernel_rfl) ⟨rfl, trivial⟩) (Or.inr <| ⟨(by omega), rfl⟩)
    · replace h1 : ¬ (s ≤ 1) := of_decide_eq_false h1
      refine runk TT_ok [] 17 9 [2] [] ⟨[(2, .bool false)], [], 1⟩ [True, True, True] (by kernel_rfl) ⟨trivial, trivial, trivial, trivial⟩ ?_
      refine endr (by kernel_rfl) ?_
      refine an ?_
      refine xw_ret ?_
      exact bk_ret (.bool false) (.bool false) (.bool false) (by kernel_rfl) (by kernel_rfl) (wkd [false = false] (by kernel_rfl) ⟨rfl, trivial⟩) (Or.inr <| ⟨(by omega), rfl⟩)
  · replace h0 : ¬ (0 ≤ s) := of_decide_eq_false h0
    refine runk TT_ok [] 22 4 [2] [] ⟨[(2, .bool false)], [], 1⟩ [True, True, True, True] (by kernel_rfl) ⟨trivial, trivial, trivial, trivial, trivial⟩ ?_
    refine endr (by kernel_rfl) ?_
    refine an ?_
    refine xw_ret ?_
    exact bk_ret (.bool false) (.bool false) (.bool false) (by kernel_rfl) (by kernel_rfl) (wkd [false = false] (by kernel_rfl) ⟨rfl, trivial⟩) (Or.inr <| ⟨(by omega), rfl⟩)

theorem rright_1 (s : Int) (a : Int) (l : Int) (hp0 : (s = 0 ∨ s = 1) ∧ 0 ≤ a ∧ a ≤ l ∧ l ≤ 4096) : Pub Try.prog 23 [.agg [.int .i64 s, .int .i64 a, .int .i64 l]] (fun t => t = .bool true) := by
  refine (rright s a l ).mono ?_
  rintro _ (⟨g0, rfl⟩ | ⟨g0, rfl⟩)
  · rfl
  · exfalso; first | omega | grind

theorem rright_2 (s : Int) (a : Int) (l : Int) (hp0 : ¬ ((s = 0 ∨ s = 1) ∧ 0 ≤ a ∧ a ≤ l ∧ l ≤ 4096)) : Pub Try.prog 23 [.agg [.int .i64 s, .int .i64 a, .int .i64 l]] (fun t => t = .bool false) := by
  refine (rright s a l ).mono ?_
  rintro _ (⟨g0, rfl⟩ | ⟨g0, rfl⟩)
  · exfalso; first | omega | grind
  · rfl

theorem left (s : Int) (a : Int) (l : Int) : Pub Try.prog 17 [.agg [.int .i64 s, .int .i64 a, .int .i64 l]] (fun t => (((s = 0 ∨ s = 1) ∧ 0 ≤ a ∧ a ≤ l ∧ l ≤ 4096) ∧ t = .int .i64 (l - a)) ∨ ((¬ ((s = 0 ∨ s = 1) ∧ 0 ≤ a ∧ a ≤ l ∧ l ≤ 4096)) ∧ t = .int .i64 0)) := by
  refine pub_of TT_ok Try.func17 rfl (by decide) (Nat.le_of_ble_eq_true (by kernel_rfl)) (by kernel_rfl) ?_
  refine xw_seq ?_
  refine reg ?_
  refine runk TT_ok [] 2 0 [2, 1] [0] ⟨[(2, .int .i64 0), (1, .loc 0 0)], [(0, .cells [.int .i64 s, .int .i64 a, .int .i64 l] 23)], 1⟩ [] (by kernel_rfl) trivial ?_
  refine endr (by kernel_rfl) ?_
  refine an ?_
  refine xw_seq ?_
  refine xw_seq ?_
  refine reg ?_
  refine runk TT_ok [] 1 0 [3, 2, 1] [0] ⟨[(3, .agg [.int .i64 s, .int .i64 a, .int .i64 l]), (2, .int .i64 0), (1, .loc 0 0)], [(0, .cells [.int .i64 s, .int .i64 a, .int .i64 l] 23)], 1⟩ [True] (by kernel_rfl) ⟨trivial, trivial⟩ ?_
  by_cases h0 : (s = 0 ∨ s = 1) ∧ 0 ≤ a ∧ a ≤ l ∧ l ≤ 4096
  · skip
    refine pcall1 (args := [.agg [.int .i64 s, .int .i64 a, .int .i64 l]]) (args' := [.agg [.int .i64 s, .int .i64 a, .int .i64 l]]) (d := (some 4)) (sv := .bool true) (by kernel_rfl) (right_1 s a l (by omega)) [(s : Int) = s, (a : Int) = a, (l : Int) = l] (by kernel_rfl) ⟨rfl, rfl, rfl, trivial⟩ (by kernel_rfl) ?_
    refine runk TT_ok [] 1 2 [5, 2, 1] [0] ⟨[(5, .bool false), (2, .int .i64 0), (1, .loc 0 0)], [(0, .cells [.int .i64 s, .int .i64 a, .int .i64 l] 23)], 1⟩ [] (by kernel_rfl) trivial ?_
    refine endr (by kernel_rfl) ?_
    refine an ?_
    refine xw_false (by kernel_rfl) ?_
    refine xw_skip ?_
    refine an ?_
    refine xw_seq ?_
    refine reg ?_
    refine runk TT_ok [(4, .int .i64 (l - a))] 6 0 [2] [] ⟨[(2, .int .i64 (l - a))], [], 1⟩ [True, True, IntKind.i64.wrap (l - a) = (l - a)] (by kernel_rfl) ⟨trivial, trivial, i64_eq (by omega) (by omega), trivial⟩ ?_
    refine endr (by kernel_rfl) ?_
    refine an ?_
    refine xw_ret ?_
    exact bk_ret (.int .i64 (l - a)) (.int .i64 (l - a)) (.int .i64 (l - a)) (by kernel_rfl) (by kernel_rfl) (wkd [((l - a) : Int) = (l - a)] (by kernel_rfl) ⟨rfl, trivial⟩) (Or.inl <| ⟨(by omega), rfl⟩)
  · skip
    refine pcall1 (args := [.agg [.int .i64 s, .int .i64 a, .int .i64 l]]) (args' := [.agg [.int .i64 s, .int .i64 a, .int .i64 l]]) (d := (some 4)) (sv := .bool false) (by kernel_rfl) (right_2 s a l (by omega)) [(s : Int) = s, (a : Int) = a, (l : Int) = l] (by kernel_rfl) ⟨rfl, rfl, rfl, trivial⟩ (by kernel_rfl) ?_
    refine runk TT_ok [] 1 2 [5, 2, 1] [0] ⟨[(5, .bool true), (2, .int .i64 0), (1, .loc 0 0)], [(0, .cells [.int .i64 s, .int .i64 a, .int .i64 l] 23)], 1⟩ [] (by kernel_rfl) trivial ?_
    refine endr (by kernel_rfl) ?_
    refine an ?_
    refine xw_true (by kernel_rfl) ?_
    refine xw_seq ?_
    refine reg ?_
    refine runk TT_ok [] 1 0 [2, 1] [0] ⟨[(2, .int .i64 0), (1, .loc 0 0)], [(0, .cells [.int .i64 s, .int .i64 a, .int .i64 l] 23)], 1⟩ [] (by kernel_rfl) trivial ?_
    refine endr (by kernel_rfl) ?_
    refine an ?_
    refine xw_ret ?_
    refine an_ret ?_
    exact bk_ret (.int .i64 0) (.int .i64 0) (.int .i64 0) (by kernel_rfl) (by kernel_rfl) (wkd [(0 : Int) = 0] (by kernel_rfl) ⟨rfl, trivial⟩) (Or.inr <| ⟨(by omega), rfl⟩)

theorem left_1 (s : Int) (a : Int) (l : Int) (hp0 : (s = 0 ∨ s = 1) ∧ 0 ≤ a ∧ a ≤ l ∧ l ≤ 4096) : Pub Try.prog 17 [.agg [.int .i64 s, .int .i64 a, .int .i64 l]] (fun t => t = .int .i64 (l - a)) := by
  refine (left s a l ).mono ?_
  rintro _ (⟨g0, rfl⟩ | ⟨g0, rfl⟩)
  · rfl
  · exfalso; first | omega | grind

theorem left_2 (s : Int) (a : Int) (l : Int) (hp0 : ¬ ((s = 0 ∨ s = 1) ∧ 0 ≤ a ∧ a ≤ l ∧ l ≤ 4096)) : Pub Try.prog 17 [.agg [.int .i64 s, .int .i64 a, .int .i64 l]] (fun t => t = .int .i64 0) := by
  refine (left s a l ).mono ?_
  rintro _ (⟨g0, rfl⟩ | ⟨g0, rfl⟩)
  · exfalso; first | omega | grind
  · rfl

theorem rleft (s : Int) (a : Int) (l : Int) : Pub Try.prog 24 [.agg [.int .i64 s, .int .i64 a, .int .i64 l]] (fun t => (((s = 0 ∨ s = 1) ∧ 0 ≤ a ∧ a ≤ l ∧ l ≤ 4096) ∧ t = .int .i64 (l - a)) ∨ ((¬ ((s = 0 ∨ s = 1) ∧ 0 ≤ a ∧ a ≤ l ∧ l ≤ 4096)) ∧ t = .int .i64 0)) := by
  refine pub_of TT_ok Try.func24 rfl (by decide) (Nat.le_of_ble_eq_true (by kernel_rfl)) (by kernel_rfl) ?_
  refine xw_seq ?_
  refine reg ?_
  refine runk TT_ok [] 2 0 [2, 1] [0] ⟨[(2, .int .i64 0), (1, .loc 0 0)], [(0, .cells [.int .i64 s, .int .i64 a, .int .i64 l] 23)], 1⟩ [] (by kernel_rfl) trivial ?_
  refine endr (by kernel_rfl) ?_
  refine an ?_
  refine xw_seq ?_
  refine reg ?_
  refine runk TT_ok [] 1 0 [4, 2, 1] [0] ⟨[(4, .agg [.int .i64 s, .int .i64 a, .int .i64 l]), (2, .int .i64 0), (1, .loc 0 0)], [(0, .cells [.int .i64 s, .int .i64 a, .int .i64 l] 23)], 1⟩ [True] (by kernel_rfl) ⟨trivial, trivial⟩ ?_
  by_cases h0 : (s = 0 ∨ s = 1) ∧ 0 ≤ a ∧ a ≤ l ∧ l ≤ 4096
  · skip
    refine pcall1 (args := [.agg [.int .i64 s, .int .i64 a, .int .i64 l]]) (args' := [.agg [.int .i64 s, .int .i64 a, .int .i64 l]]) (d := (some 5)) (sv := .bool true) (by kernel_rfl) (rright_1 s a l (by omega)) [(s : Int) = s, (a : Int) = a, (l : Int) = l] (by kernel_rfl) ⟨rfl, rfl, rfl, trivial⟩ (by kernel_rfl) ?_
    refine runk TT_ok [] 1 2 [3, 2, 1] [0] ⟨[(3, .bool true), (2, .int .i64 0), (1, .loc 0 0)], [(0, .cells [.int .i64 s, .int .i64 a, .int .i64 l] 23)], 1⟩ [] (by kernel_rfl) trivial ?_
    refine endr (by kernel_rfl) ?_
    refine an ?_
    refine xw_seq ?_
    refine xw_seq ?_
    refine reg ?_
    refine runk TT_ok [] 2 0 [7, 2, 1] [0] ⟨[(7, .bool false), (2, .int .i64 0), (1, .loc 0 0)], [(0, .cells [.int .i64 s, .int .i64 a, .int .i64 l] 23)], 1⟩ [] (by kernel_rfl) trivial ?_
    refine endr (by kernel_rfl) ?_
    refine an ?_
    refine xw_false (by kernel_rfl) ?_
    refine xw_skip ?_
    refine an ?_
    refine xw_seq ?_
    refine reg ?_
    refine runk TT_ok [(4, .int .i64 (l - a))] 6 0 [2] [] ⟨[(2, .int .i64 (l - a))], [], 1⟩ [True, True, IntKind.i64.wrap (l - a) = (l - a)] (by kernel_rfl) ⟨trivial, trivial, i64_eq (by omega) (by omega), trivial⟩ ?_
    refine endr (by kernel_rfl) ?_
    refine an ?_
    refine xw_ret ?_
    exact bk_ret (.int .i64 (l - a)) (.int .i64 (l - a)) (.int .i64 (l - a)) (by kernel_rfl) (by kernel_rfl) (wkd [((l - a) : Int) = (l - a)] (by kernel_rfl) ⟨rfl, trivial⟩) (Or.inl <| ⟨(by omega), rfl⟩)
  · skip
    refine pcall1 (args := [.agg [.int .i64 s, .int .i64 a, .int .i64 l]]) (args' := [.agg [.int .i64 s, .int .i64 a, .int .i64 l]]) (d := (some 5)) (sv := .bool false) (by kernel_rfl) (rright_2 s a l (by omega)) [(s : Int) = s, (a : Int) = a, (l : Int) = l] (by kernel_rfl) ⟨rfl, rfl, rfl, trivial⟩ (by kernel_rfl) ?_
    refine runk TT_ok [] 1 2 [3, 2, 1] [0] ⟨[(3, .bool false), (2, .int .i64 0), (1, .loc 0 0)], [(0, .cells [.int .i64 s, .int .i64 a, .int .i64 l] 23)], 1⟩ [] (by kernel_rfl) trivial ?_
    refine endr (by kernel_rfl) ?_
    refine an ?_
    refine xw_seq ?_
    refine xw_seq ?_
    refine reg ?_
    refine runk TT_ok [] 2 0 [7, 2, 1] [0] ⟨[(7, .bool true), (2, .int .i64 0), (1, .loc 0 0)], [(0, .cells [.int .i64 s, .int .i64 a, .int .i64 l] 23)], 1⟩ [] (by kernel_rfl) trivial ?_
    refine endr (by kernel_rfl) ?_
    refine an ?_
    refine xw_true (by kernel_rfl) ?_
    refine xw_seq ?_
    refine reg ?_
    refine runk TT_ok [] 1 0 [2, 1] [0] ⟨[(2, .int .i64 0), (1, .loc 0 0)], [(0, .cells [.int .i64 s, .int .i64 a, .int .i64 l] 23)], 1⟩ [] (by kernel_rfl) trivial ?_
    refine endr (by kernel_rfl) ?_
    refine an ?_
    refine xw_ret ?_
    refine an_ret ?_
    exact bk_ret (.int .i64 0) (.int .i64 0) (.int .i64 0) (by kernel_rfl) (by kernel_rfl) (wkd [(0 : Int) = 0] (by kernel_rfl) ⟨rfl, trivial⟩) (Or.inr <| ⟨(by omega), rfl⟩)

theorem rleft_1 (s : Int) (a : Int) (l : Int) (hp0 : (s = 0 ∨ s = 1) ∧ 0 ≤ a ∧ a ≤ l ∧ l ≤ 4096) : Pub Try.prog 24 [.agg [.int .i64 s, .int .i64 a, .int .i64 l]] (fun t => t = .int .i64 (l - a)) := by
  refine (rleft s a l ).mono ?_
  rintro _ (⟨g0, rfl⟩ | ⟨g0, rfl⟩)
  · rfl
  · exfalso; first | omega | grind

theorem rleft_2 (s : Int) (a : Int) (l : Int) (hp0 : ¬ ((s = 0 ∨ s = 1) ∧ 0 ≤ a ∧ a ≤ l ∧ l ≤ 4096)) : Pub Try.prog 24 [.agg [.int .i64 s, .int .i64 a, .int .i64 l]] (fun t => t = .int .i64 0) := by
  refine (rleft s a l ).mono ?_
  rintro _ (⟨g0, rfl⟩ | ⟨g0, rfl⟩)
  · exfalso; first | omega | grind
  · rfl

theorem addr (s : Int) (a : Int) : Pub Try.prog 50 [.int .i64 s, .int .i64 a] (fun t => ((0 ≤ s ∧ s ≤ 1 ∧ 0 ≤ a ∧ a ≤ 4294967295) ∧ t = .int .u64 ((s + 1) * 4294967296 + a)) ∨ ((¬ (0 ≤ s ∧ s ≤ 1 ∧ 0 ≤ a ∧ a ≤ 4294967295)) ∧ t = .int .u64 0)) := by
  refine pub_of TT_ok Try.func50 rfl (by decide) (Nat.le_of_ble_eq_true (by kernel_rfl)) (by kernel_rfl) ?_
  refine xw_seq ?_
  refine reg ?_
  refine runk TT_ok [] 1 0 [4, 0, 1] [] ⟨[(4, .int .u64 0), (0, .int .i64 s), (1, .int .i64 a)], [], 0⟩ [] (by kernel_rfl) trivial ?_
  refine endr (by kernel_rfl) ?_
  refine an ?_
  refine xw_seq ?_
  refine xw_seq ?_
  refine reg ?_
  refine runk TT_ok [(1, .bool (decide (s < 0)))] 3 0 [7, 4, 0, 1] [] ⟨[(7, .bool (decide (s < 0))), (4, .int .u64 0), (0, .int .i64 s), (1, .int .i64 a)], [], 0⟩ [(decide (s < 0)) = (decide (s < 0))] (by kernel_rfl) ⟨rfl, trivial⟩ ?_
  refine splitr 7 (x := (decide (s < 0))) (by kernel_rfl) (fun h0 => ?_) (fun h0 => ?_)
  · replace h0 : s < 0 := of_decide_eq_true h0
    refine runk TT_ok [] 11 3 [18, 4, 0, 1] [] ⟨[(18, .bool true), (4, .int .u64 0), (0, .int .i64 s), (1, .int .i64 a)], [], 0⟩ [True, True, True] (by kernel_rfl) ⟨trivial, trivial, trivial, trivial⟩ ?_
    refine endr (by kernel_rfl) ?_
    refine an ?_
    refine xw_true (by kernel_rfl) ?_
    refine xw_seq ?_
    refine reg ?_
    refine runk TT_ok [] 1 0 [4, 0, 1] [] ⟨[(4, .int .u64 0), (0, .int .i64 s), (1, .int .i64 a)], [], 0⟩ [] (by kernel_rfl) trivial ?_
    refine endr (by kernel_rfl) ?_
    refine an ?_
    refine xw_ret ?_
    refine an_ret ?_
    exact bk_ret (.int .u64 0) (.int .u64 0) (.int .u64 0) (by kernel_rfl) (by kernel_rfl) (wkd [(0 : Int) = 0] (by kernel_rfl) ⟨rfl, trivial⟩) (Or.inr <| ⟨(by omega), rfl⟩)
  · replace h0 : ¬ (s < 0) := of_decide_eq_false h0
    refine runk TT_ok [(4, .bool (decide (1 < s)))] 4 3 [11, 4, 0, 1] [] ⟨[(11, .bool (decide (1 < s))), (4, .int .u64 0), (0, .int .i64 s), (1, .int .i64 a)], [], 0⟩ [(decide (1 < s)) = (decide (1 < s)), True] (by kernel_rfl) ⟨rfl, trivial, trivial⟩ ?_
    refine splitr 11 (x := (decide (1 < s))) (by kernel_rfl) (fun h1 => ?_) (fun h1 => ?_)
    · replace h1 : 1 < s := of_decide_eq_true h1
      refine runk TT_ok [] 7 7 [18, 4, 0, 1] [] ⟨[(18, .bool true), (4, .int .u64 0), (0, .int .i64 s), (1, .int .i64 a)], [], 0⟩ [True, True] (by kernel_rfl) ⟨trivial, trivial, trivial⟩ ?_
      refine endr (by kernel_rfl) ?_
      refine an ?_
      refine xw_true (by kernel_rfl) ?_
      refine xw_seq ?_
      refine reg ?_
      refine runk TT_ok [] 1 0 [4, 0, 1] [] ⟨[(4, .int .u64 0), (0, .int .i64 s), (1, .int .i64 a)], [], 0⟩ [] (by kernel_rfl) trivial ?_
      refine endr (by kernel_rfl) ?_
      refine an ?_
      refine xw_ret ?_
      refine an_ret ?_
      exact bk_ret (.int .u64 0) (.int .u64 0) (.int .u64 0) (by kernel_rfl) (by kernel_rfl) (wkd [(0 : Int) = 0] (by kernel_rfl) ⟨rfl, trivial⟩) (Or.inr <| ⟨(by omega), rfl⟩)
    · replace h1 : ¬ (1 < s) := of_decide_eq_false h1
      refine runk TT_ok [(8, .bool (decide (a < 0)))] 4 7 [15, 4, 0, 1] [] ⟨[(15, .bool (decide (a < 0))), (4, .int .u64 0), (0, .int .i64 s), (1, .int .i64 a)], [], 0⟩ [(decide (a < 0)) = (decide (a < 0)), True] (by kernel_rfl) ⟨rfl, trivial, trivial⟩ ?_
      refine splitr 15 (x := (decide (a < 0))) (by kernel_rfl) (fun h2 => ?_) (fun h2 => ?_)
      · replace h2 : a < 0 := of_decide_eq_true h2
        refine runk TT_ok [] 3 11 [18, 4, 0, 1] [] ⟨[(18, .bool true), (4, .int .u64 0), (0, .int .i64 s), (1, .int .i64 a)], [], 0⟩ [True] (by kernel_rfl) ⟨trivial, trivial⟩ ?_
        refine endr (by kernel_rfl) ?_
        refine an ?_
        refine xw_true (by kernel_rfl) ?_
        refine xw_seq ?_
        refine reg ?_
        refine runk TT_ok [] 1 0 [4, 0, 1] [] ⟨[(4, .int .u64 0), (0, .int .i64 s), (1, .int .i64 a)], [], 0⟩ [] (by kernel_rfl) trivial ?_
        refine endr (by kernel_rfl) ?_
        refine an ?_
        refine xw_ret ?_
        refine an_ret ?_
        exact bk_ret (.int .u64 0) (.int .u64 0) (.int .u64 0) (by kernel_rfl) (by kernel_rfl) (wkd [(0 : Int) = 0] (by kernel_rfl) ⟨rfl, trivial⟩) (Or.inr <| ⟨(by omega), rfl⟩)
      · replace h2 : ¬ (a < 0) := of_decide_eq_false h2
        refine runk TT_ok [(12, .bool (decide (4294967295 < a)))] 3 11 [18, 4, 0, 1] [] ⟨[(18, .bool (decide (4294967295 < a))), (4, .int .u64 0), (0, .int .i64 s), (1, .int .i64 a)], [], 0⟩ [(decide (4294967295 < a)) = (decide (4294967295 < a)), True] (by kernel_rfl) ⟨rfl, trivial, trivial⟩ ?_
        refine endr (by kernel_rfl) ?_
        refine an ?_
        refine xw_cond (b := (decide (4294967295 < a))) (by kernel_rfl) (fun h3 => ?_) (fun h3 => ?_)
        · replace h3 : 4294967295 < a := of_decide_eq_true h3
          refine xw_seq ?_
          refine reg ?_
          refine runk TT_ok [] 1 0 [4, 0, 1] [] ⟨[(4, .int .u64 0), (0, .int .i64 s), (1, .int .i64 a)], [], 0⟩ [] (by kernel_rfl) trivial ?_
          refine endr (by kernel_rfl) ?_
          refine an ?_
          refine xw_ret ?_
          refine an_ret ?_
          exact bk_ret (.int .u64 0) (.int .u64 0) (.int .u64 0) (by kernel_rfl) (by kernel_rfl) (wkd [(0 : Int) = 0] (by kernel_rfl) ⟨rfl, trivial⟩) (Or.inr <| ⟨(by omega), rfl⟩)
        · replace h3 : ¬ (4294967295 < a) := of_decide_eq_false h3
          refine xw_skip ?_
          refine an ?_
          refine xw_seq ?_
          refine reg ?_
          refine runk TT_ok [(1, .int .i64 (s + 1)), (2, .int .i64 (s + 1)), (3, .int .i64 ((s + 1) * 4294967296)), (5, .int .i64 a), (6, .int .i64 (((s + 1) * 4294967296) + a))] 8 0 [4] [] ⟨[(4, .int .u64 (((s + 1) * 4294967296) + a))], [], 0⟩ [IntKind.i64.wrap (s + 1) = (s + 1), IntKind.u64.wrap (s + 1) = (s + 1), (0 : Int) ≤ 32 ∧ IntKind.u64.wrap ((s + 1) * 2 ^ min (32 : Int).toNat IntKind.u64.bits) = ((s + 1) * 4294967296), IntKind.u64.wrap a = a, IntKind.u64.wrap (BitVec.ofInt 64 ((s + 1) * 4294967296) ||| BitVec.ofInt 64 a).toNat = (((s + 1) * 4294967296) + a)] (by kernel_rfl) ⟨i64_eq (by omega) (by omega), u64_in (by omega), ⟨by omega, u64_eq rfl (by omega)⟩, u64_in (by omega), or_eq 32 4294967296 rfl (by omega) (by omega) (by omega) (by omega), trivial⟩ ?_
          refine endr (by kernel_rfl) ?_
          refine an ?_
          refine xw_ret ?_
          exact bk_ret (.int .u64 (((s + 1) * 4294967296) + a)) (.int .u64 (((s + 1) * 4294967296) + a)) (.int .u64 ((s + 1) * 4294967296 + a)) (by kernel_rfl) (by kernel_rfl) (wkd [((((s + 1) * 4294967296) + a) : Int) = ((s + 1) * 4294967296 + a)] (by kernel_rfl) ⟨(by omega), trivial⟩) (Or.inl <| ⟨(by omega), rfl⟩)

theorem addr_1 (s : Int) (a : Int) (hp0 : 0 ≤ s ∧ s ≤ 1 ∧ 0 ≤ a ∧ a ≤ 4294967295) : Pub Try.prog 50 [.int .i64 s, .int .i64 a] (fun t => t = .int .u64 ((s + 1) * 4294967296 + a)) := by
  refine (addr s a ).mono ?_
  rintro _ (⟨g0, rfl⟩ | ⟨g0, rfl⟩)
  · rfl
  · exfalso; first | omega | grind

theorem addr_2 (s : Int) (a : Int) (hp0 : ¬ (0 ≤ s ∧ s ≤ 1 ∧ 0 ≤ a ∧ a ≤ 4294967295)) : Pub Try.prog 50 [.int .i64 s, .int .i64 a] (fun t => t = .int .u64 0) := by
  refine (addr s a ).mono ?_
  rintro _ (⟨g0, rfl⟩ | ⟨g0, rfl⟩)
  · exfalso; first | omega | grind
  · rfl

theorem raddr (s : Int) (a : Int) : Pub Try.prog 51 [.int .i64 s, .int .i64 a] (fun t => ((0 ≤ s ∧ s ≤ 1 ∧ 0 ≤ a ∧ a ≤ 4294967295) ∧ t = .int .u64 ((s + 1) * 4294967296 + a)) ∨ ((¬ (0 ≤ s ∧ s ≤ 1 ∧ 0 ≤ a ∧ a ≤ 4294967295)) ∧ t = .int .u64 0)) := by
  refine pub_of TT_ok Try.func51 rfl (by decide) (Nat.le_of_ble_eq_true (by kernel_rfl)) (by kernel_rfl) ?_
  refine xw_seq ?_
  refine reg ?_
  refine runk TT_ok [] 1 0 [4, 0, 1] [] ⟨[(4, .int .u64 0), (0, .int .i64 s), (1, .int .i64 a)], [], 0⟩ [] (by kernel_rfl) trivial ?_
  refine endr (by kernel_rfl) ?_
  refine an ?_
  refine xw_seq ?_
  refine xw_seq ?_
  refine reg ?_
  refine runk TT_ok [(1, .bool (s != 0))] 3 0 [7, 4, 0, 1] [] ⟨[(7, .bool (s != 0)), (4, .int .u64 0), (0, .int .i64 s), (1, .int .i64 a)], [], 0⟩ [(s != 0) = (s != 0)] (by kernel_rfl) ⟨rfl, trivial⟩ ?_
  refine splitr 7 (x := (s != 0)) (by kernel_rfl) (fun h0 => ?_) (fun h0 => ?_)
  · replace h0 : s ≠ 0 := bne_iff_ne.1 h0
    refine runk TT_ok [(4, .bool (s != 1))] 4 3 [11, 4, 0, 1] [] ⟨[(11, .bool (s != 1)), (4, .int .u64 0), (0, .int .i64 s), (1, .int .i64 a)], [], 0⟩ [(s != 1) = (s != 1), True] (by kernel_rfl) ⟨rfl, trivial, trivial⟩ ?_
    refine splitr 11 (x := (s != 1)) (by kernel_rfl) (fun h1 => ?_) (fun h1 => ?_)
    · replace h1 : s ≠ 1 := bne_iff_ne.1 h1
      refine runk TT_ok [] 7 7 [18, 4, 0, 1] [] ⟨[(18, .bool true), (4, .int .u64 0), (0, .int .i64 s), (1, .int .i64 a)], [], 0⟩ [True, True] (by kernel_rfl) ⟨trivial, trivial, trivial⟩ ?_
      refine endr (by kernel_rfl) ?_
      refine an ?_
      refine xw_true (by kernel_rfl) ?_
      refine xw_seq ?_
      refine reg ?_
      refine runk TT_ok [] 1 0 [4, 0, 1] [] ⟨[(4, .int .u64 0), (0, .int .i64 s), (1, .int .i64 a)], [], 0⟩ [] (by kernel_rfl) trivial ?_
      refine endr (by kernel_rfl) ?_
      refine an ?_
      refine xw_ret ?_
      refine an_ret ?_
      exact bk_ret (.int .u64 0) (.int .u64 0) (.int .u64 0) (by kernel_rfl) (by kernel_rfl) (wkd [(0 : Int) = 0] (by kernel_rfl) ⟨rfl, trivial⟩) (Or.inr <| ⟨(by omega), rfl⟩)
    · replace h1 : s = 1 := bne_eq_false_iff_eq.1 h1
      refine runk TT_ok [(8, .bool (decide (a < 0)))] 4 7 [15, 4, 0, 1] [] ⟨[(15, .bool (decide (a < 0))), (4, .int .u64 0), (0, .int .i64 s), (1, .int .i64 a)], [], 0⟩ [(decide (a < 0)) = (decide (a < 0)), True] (by kernel_rfl) ⟨rfl, trivial, trivial⟩ ?_
      refine splitr 15 (x := (decide (a < 0))) (by kernel_rfl) (fun h2 => ?_) (fun h2 => ?_)
      · replace h2 : a < 0 := of_decide_eq_true h2
        refine runk TT_ok [] 3 11 [18, 4, 0, 1] [] ⟨[(18, .bool true), (4, .int .u64 0), (0, .int .i64 s), (1, .int .i64 a)], [], 0⟩ [True] (by kernel_rfl) ⟨trivial, trivial⟩ ?_
        refine endr (by kernel_rfl) ?_
        refine an ?_
        refine xw_true (by kernel_rfl) ?_
        refine xw_seq ?_
        refine reg ?_
        refine runk TT_ok [] 1 0 [4, 0, 1] [] ⟨[(4, .int .u64 0), (0, .int .i64 s), (1, .int .i64 a)], [], 0⟩ [] (by kernel_rfl) trivial ?_
        refine endr (by kernel_rfl) ?_
        refine an ?_
        refine xw_ret ?_
        refine an_ret ?_
        exact bk_ret (.int .u64 0) (.int .u64 0) (.int .u64 0) (by kernel_rfl) (by kernel_rfl) (wkd [(0 : Int) = 0] (by kernel_rfl) ⟨rfl, trivial⟩) (Or.inr <| ⟨(by omega), rfl⟩)
      · replace h2 : ¬ (a < 0) := of_decide_eq_false h2
        refine runk TT_ok [(12, .bool (decide (4294967296 ≤ a)))] 3 11 [18, 4, 0, 1] [] ⟨[(18, .bool (decide (4294967296 ≤ a))), (4, .int .u64 0), (0, .int .i64 s), (1, .int .i64 a)], [], 0⟩ [(decide (4294967296 ≤ a)) = (decide (4294967296 ≤ a)), True] (by kernel_rfl) ⟨rfl, trivial, trivial⟩ ?_
        refine endr (by kernel_rfl) ?_
        refine an ?_
        refine xw_cond (b := (decide (4294967296 ≤ a))) (by kernel_rfl) (fun h3 => ?_) (fun h3 => ?_)
        · replace h3 : 4294967296 ≤ a := of_decide_eq_true h3
          refine xw_seq ?_
          refine reg ?_
          refine runk TT_ok [] 1 0 [4, 0, 1] [] ⟨[(4, .int .u64 0), (0, .int .i64 s), (1, .int .i64 a)], [], 0⟩ [] (by kernel_rfl) trivial ?_
          refine endr (by kernel_rfl) ?_
          refine an ?_
          refine xw_ret ?_
          refine an_ret ?_
          exact bk_ret (.int .u64 0) (.int .u64 0) (.int .u64 0) (by kernel_rfl) (by kernel_rfl) (wkd [(0 : Int) = 0] (by kernel_rfl) ⟨rfl, trivial⟩) (Or.inr <| ⟨(by omega), rfl⟩)
        · replace h3 : ¬ (4294967296 ≤ a) := of_decide_eq_false h3
          refine xw_skip ?_
          refine an ?_
          refine xw_seq ?_
          refine reg ?_
          refine runk TT_ok [(1, .int .i64 (1 + s)), (2, .int .i64 (1 + s)), (3, .int .i64 (4294967296 * (1 + s))), (5, .int .i64 a), (6, .int .i64 ((4294967296 * (1 + s)) + a))] 8 0 [4] [] ⟨[(4, .int .u64 ((4294967296 * (1 + s)) + a))], [], 0⟩ [IntKind.i64.wrap (1 + s) = (1 + s), IntKind.u64.wrap (1 + s) = (1 + s), IntKind.u64.wrap (4294967296 * (1 + s)) = (4294967296 * (1 + s)), IntKind.u64.wrap a = a, IntKind.u64.wrap ((4294967296 * (1 + s)) + a) = ((4294967296 * (1 + s)) + a)] (by kernel_rfl) ⟨i64_eq (by omega) (by omega), u64_in (by omega), u64_eq (by omega) (by omega), u64_in (by omega), u64_eq (by omega) (by omega), trivial⟩ ?_
          refine endr (by kernel_rfl) ?_
          refine an ?_
          refine xw_ret ?_
          exact bk_ret (.int .u64 ((4294967296 * (1 + s)) + a)) (.int .u64 ((4294967296 * (1 + s)) + a)) (.int .u64 ((s + 1) * 4294967296 + a)) (by kernel_rfl) (by kernel_rfl) (wkd [(((4294967296 * (1 + s)) + a) : Int) = ((s + 1) * 4294967296 + a)] (by kernel_rfl) ⟨(by omega), trivial⟩) (Or.inl <| ⟨(by omega), rfl⟩)
  · replace h0 : s = 0 := bne_eq_false_iff_eq.1 h0
    refine runk TT_ok [(8, .bool (decide (a < 0)))] 8 3 [15, 4, 0, 1] [] ⟨[(15, .bool (decide (a < 0))), (4, .int .u64 0), (0, .int .i64 s), (1, .int .i64 a)], [], 0⟩ [True, (decide (a < 0)) = (decide (a < 0)), True] (by kernel_rfl) ⟨trivial, rfl, trivial, trivial⟩ ?_
    refine splitr 15 (x := (decide (a < 0))) (by kernel_rfl) (fun h1 => ?_) (fun h1 => ?_)
    · replace h1 : a < 0 := of_decide_eq_true h1
      refine runk TT_ok [] 3 11 [18, 4, 0, 1] [] ⟨[(18, .bool true), (4, .int .u64 0), (0, .int .i64 s), (1, .int .i64 a)], [], 0⟩ [True] (by kernel_rfl) ⟨trivial, trivial⟩ ?_
      refine endr (by kernel_rfl) ?_
      refine an ?_
      refine xw_true (by kernel_rfl) ?_
      refine xw_seq ?_
      refine reg ?_
      refine runk TT_ok [] 1 0 [4, 0, 1] [] ⟨[(4, .int .u64 0), (0, .int .i64 s), (1, .int .i64 a)], [], 0⟩ [] (by kernel_rfl) trivial ?_
      refine endr (by kernel_rfl) ?_
      refine an ?_
      refine xw_ret ?_
      refine an_ret ?_
      exact bk_ret (.int .u64 0) (.int .u64 0) (.int .u64 0) (by kernel_rfl) (by kernel_rfl) (wkd [(0 : Int) = 0] (by kernel_rfl) ⟨rfl, trivial⟩) (Or.inr <| ⟨(by omega), rfl⟩)
    · replace h1 : ¬ (a < 0) := of_decide_eq_false h1
      refine runk TT_ok [(12, .bool (decide (4294967296 ≤ a)))] 3 11 [18, 4, 0, 1] [] ⟨[(18, .bool (decide (4294967296 ≤ a))), (4, .int .u64 0), (0, .int .i64 s), (1, .int .i64 a)], [], 0⟩ [(decide (4294967296 ≤ a)) = (decide (4294967296 ≤ a)), True] (by kernel_rfl) ⟨rfl, trivial, trivial⟩ ?_
      refine endr (by kernel_rfl) ?_
      refine an ?_
      refine xw_cond (b := (decide (4294967296 ≤ a))) (by kernel_rfl) (fun h2 => ?_) (fun h2 => ?_)
      · replace h2 : 4294967296 ≤ a := of_decide_eq_true h2
        refine xw_seq ?_
        refine reg ?_
        refine runk TT_ok [] 1 0 [4, 0, 1] [] ⟨[(4, .int .u64 0), (0, .int .i64 s), (1, .int .i64 a)], [], 0⟩ [] (by kernel_rfl) trivial ?_
        refine endr (by kernel_rfl) ?_
        refine an ?_
        refine xw_ret ?_
        refine an_ret ?_
        exact bk_ret (.int .u64 0) (.int .u64 0) (.int .u64 0) (by kernel_rfl) (by kernel_rfl) (wkd [(0 : Int) = 0] (by kernel_rfl) ⟨rfl, trivial⟩) (Or.inr <| ⟨(by omega), rfl⟩)
      · replace h2 : ¬ (4294967296 ≤ a) := of_decide_eq_false h2
        refine xw_skip ?_
        refine an ?_
        refine xw_seq ?_
        refine reg ?_
        refine runk TT_ok [(1, .int .i64 (1 + s)), (2, .int .i64 (1 + s)), (3, .int .i64 (4294967296 * (1 + s))), (5, .int .i64 a), (6, .int .i64 ((4294967296 * (1 + s)) + a))] 8 0 [4] [] ⟨[(4, .int .u64 ((4294967296 * (1 + s)) + a))], [], 0⟩ [IntKind.i64.wrap (1 + s) = (1 + s), IntKind.u64.wrap (1 + s) = (1 + s), IntKind.u64.wrap (4294967296 * (1 + s)) = (4294967296 * (1 + s)), IntKind.u64.wrap a = a, IntKind.u64.wrap ((4294967296 * (1 + s)) + a) = ((4294967296 * (1 + s)) + a)] (by kernel_rfl) ⟨i64_eq (by omega) (by omega), u64_in (by omega), u64_eq (by omega) (by omega), u64_in (by omega), u64_eq (by omega) (by omega), trivial⟩ ?_
        refine endr (by kernel_rfl) ?_
        refine an ?_
        refine xw_ret ?_
        exact bk_ret (.int .u64 ((4294967296 * (1 + s)) + a)) (.int .u64 ((4294967296 * (1 + s)) + a)) (.int .u64 ((s + 1) * 4294967296 + a)) (by kernel_rfl) (by kernel_rfl) (wkd [(((4294967296 * (1 + s)) + a) : Int) = ((s + 1) * 4294967296 + a)] (by kernel_rfl) ⟨(by omega), trivial⟩) (Or.inl <| ⟨(by omega), rfl⟩)

theorem raddr_1 (s : Int) (a : Int) (hp0 : 0 ≤ s ∧ s ≤ 1 ∧ 0 ≤ a ∧ a ≤ 4294967295) : Pub Try.prog 51 [.int .i64 s, .int .i64 a] (fun t => t = .int .u64 ((s + 1) * 4294967296 + a)) := by
  refine (raddr s a ).mono ?_
  rintro _ (⟨g0, rfl⟩ | ⟨g0, rfl⟩)
  · rfl
  · exfalso; first | omega | grind

theorem raddr_2 (s : Int) (a : Int) (hp0 : ¬ (0 ≤ s ∧ s ≤ 1 ∧ 0 ≤ a ∧ a ≤ 4294967295)) : Pub Try.prog 51 [.int .i64 s, .int .i64 a] (fun t => t = .int .u64 0) := by
  refine (raddr s a ).mono ?_
  rintro _ (⟨g0, rfl⟩ | ⟨g0, rfl⟩)
  · exfalso; first | omega | grind
  · rfl

theorem bnew (s : Int) (w : Int) : Pub Try.prog 19 [.int .i64 s, .int .i64 w] (fun t => ((s = 1) ∧ t = .agg [.int .i64 1, .int .i64 0, .int .i64 (max w 0)]) ∨ ((¬ (s = 1)) ∧ t = .agg [.int .i64 0, .int .i64 0, .int .i64 (max w 0)])) := by
  refine pub_of TT_ok Try.func19 rfl (by decide) (Nat.le_of_ble_eq_true (by kernel_rfl)) (by kernel_rfl) ?_
  refine xw_seq ?_
  refine reg ?_
  refine runk TT_ok [] 1 0 [4, 0, 1] [0] ⟨[(4, .loc 0 0), (0, .int .i64 s), (1, .int .i64 w)], [(0, .cells [.int .i64 0, .int .i64 0, .int .i64 0] 23)], 1⟩ [] (by kernel_rfl) trivial ?_
  refine endr (by kernel_rfl) ?_
  refine an ?_
  refine xw_seq ?_
  refine xw_seq ?_
  refine reg ?_
  refine runk TT_ok [(1, .bool (s != 1))] 2 0 [6, 4, 0, 1] [0] ⟨[(6, .bool (s != 1)), (4, .loc 0 0), (0, .int .i64 s), (1, .int .i64 w)], [(0, .cells [.int .i64 0, .int .i64 0, .int .i64 0] 23)], 1⟩ [(s != 1) = (s != 1)] (by kernel_rfl) ⟨rfl, trivial⟩ ?_
  refine endr (by kernel_rfl) ?_
  refine an ?_
  refine xw_cond (b := (s != 1)) (by kernel_rfl) (fun h0 => ?_) (fun h0 => ?_)
  · replace h0 : s ≠ 1 := bne_iff_ne.1 h0
    refine reg ?_
    refine runk TT_ok [] 1 0 [0, 4, 1] [0] ⟨[(0, .int .i64 0), (4, .loc 0 0), (1, .int .i64 w)], [(0, .cells [.int .i64 0, .int .i64 0, .int .i64 0] 23)], 1⟩ [] (by kernel_rfl) trivial ?_
    refine endr (by kernel_rfl) ?_
    refine an ?_
    refine xw_seq ?_
    refine reg ?_
    refine runk TT_ok [(2, .int .i64 (max w 0))] 5 0 [4] [0] ⟨[(4, .loc 0 0)], [(0, .cells [.int .i64 0, .int .i64 0, .int .i64 (max w 0)] 23)], 1⟩ [(if 0 > w then 0 else w) = (max w 0), True] (by kernel_rfl) ⟨(max_eq _ _), trivial, trivial⟩ ?_
    refine endr (by kernel_rfl) ?_
    refine an ?_
    refine xw_ret ?_
    exact bk_ret (.agg [.int .i64 0, .int .i64 0, .int .i64 (max w 0)]) (.agg [.int .i64 0, .int .i64 0, .int .i64 (max w 0)]) (.agg [.int .i64 0, .int .i64 0, .int .i64 (max w 0)]) (by kernel_rfl) (by kernel_rfl) (wkd [(0 : Int) = 0, (0 : Int) = 0, ((max w 0) : Int) = (max w 0)] (by kernel_rfl) ⟨rfl, rfl, rfl, trivial⟩) (Or.inr <| ⟨(by omega), rfl⟩)
  · replace h0 : s = 1 := bne_eq_false_iff_eq.1 h0
    refine xw_skip ?_
    refine an ?_
    refine xw_seq ?_
    refine reg ?_
    refine runk TT_ok [(2, .int .i64 (max w 0))] 5 0 [4] [0] ⟨[(4, .loc 0 0)], [(0, .cells [.int .i64 s, .int .i64 0, .int .i64 (max w 0)] 23)], 1⟩ [(if 0 > w then 0 else w) = (max w 0), True] (by kernel_rfl) ⟨(max_eq _ _), trivial, trivial⟩ ?_
    refine endr (by kernel_rfl) ?_
    refine an ?_
    refine xw_ret ?_
    exact bk_ret (.agg [.int .i64 s, .int .i64 0, .int .i64 (max w 0)]) (.agg [.int .i64 s, .int .i64 0, .int .i64 (max w 0)]) (.agg [.int .i64 1, .int .i64 0, .int .i64 (max w 0)]) (by kernel_rfl) (by kernel_rfl) (wkd [(s : Int) = 1, (0 : Int) = 0, ((max w 0) : Int) = (max w 0)] (by kernel_rfl) ⟨(by omega), rfl, rfl, trivial⟩) (Or.inl <| ⟨(by omega), rfl⟩)

theorem bnew_1 (s : Int) (w : Int) (hp0 : s = 1) : Pub Try.prog 19 [.int .i64 s, .int .i64 w] (fun t => t = .agg [.int .i64 1, .int .i64 0, .int .i64 (max w 0)]) := by
  refine (bnew s w ).mono ?_
  rintro _ (⟨g0, rfl⟩ | ⟨g0, rfl⟩)
  · rfl
  · exfalso; first | omega | grind

theorem bnew_2 (s : Int) (w : Int) (hp0 : ¬ (s = 1)) : Pub Try.prog 19 [.int .i64 s, .int .i64 w] (fun t => t = .agg [.int .i64 0, .int .i64 0, .int .i64 (max w 0)]) := by
  refine (bnew s w ).mono ?_
  rintro _ (⟨g0, rfl⟩ | ⟨g0, rfl⟩)
  · exfalso; first | omega | grind
  · rfl

theorem rnew (s : Int) (w : Int) : Pub Try.prog 25 [.int .i64 s, .int .i64 w] (fun t => ((s = 1) ∧ t = .agg [.int .i64 1, .int .i64 0, .int .i64 (max w 0)]) ∨ ((¬ (s = 1)) ∧ t = .agg [.int .i64 0, .int .i64 0, .int .i64 (max w 0)])) := by
  refine pub_of TT_ok Try.func25 rfl (by decide) (Nat.le_of_ble_eq_true (by kernel_rfl)) (by kernel_rfl) ?_
  refine xw_seq ?_
  refine reg ?_
  refine runk TT_ok [] 1 0 [4, 0, 1] [0] ⟨[(4, .loc 0 0), (0, .int .i64 s), (1, .int .i64 w)], [(0, .cells [.int .i64 0, .int .i64 0, .int .i64 0] 23)], 1⟩ [] (by kernel_rfl) trivial ?_
  refine endr (by kernel_rfl) ?_
  refine an ?_
  refine xw_seq ?_
  refine reg ?_
  refine runk TT_ok [] 3 0 [5, 4, 0, 1] [1, 0] ⟨[(5, .loc 1 0), (4, .loc 0 0), (0, .int .i64 s), (1, .int .i64 w)], [(1, .cells [.int .i64 0, .int .i64 0, .int .i64 0] 23), (0, .cells [.int .i64 0, .int .i64 0, .int .i64 0] 23)], 2⟩ [True] (by kernel_rfl) ⟨trivial, trivial⟩ ?_
  refine endr (by kernel_rfl) ?_
  refine an ?_
  refine xw_seq ?_
  refine xw_seq ?_
  refine reg ?_
  refine runk TT_ok [(1, .bool (s == 1))] 2 0 [8, 5, 4, 1] [1, 0] ⟨[(8, .bool (s == 1)), (5, .loc 1 0), (4, .loc 0 0), (1, .int .i64 w)], [(1, .cells [.int .i64 0, .int .i64 0, .int .i64 0] 23), (0, .cells [.int .i64 0, .int .i64 0, .int .i64 0] 23)], 2⟩ [(s == 1) = (s == 1)] (by kernel_rfl) ⟨rfl, trivial⟩ ?_
  refine endr (by kernel_rfl) ?_
  refine an ?_
  refine xw_cond (b := (s == 1)) (by kernel_rfl) (fun h0 => ?_) (fun h0 => ?_)
  · replace h0 : s = 1 := eq_of_beq h0
    refine reg ?_
    refine runk TT_ok [] 2 0 [5, 4, 1] [1, 0] ⟨[(5, .loc 1 0), (4, .loc 0 0), (1, .int .i64 w)], [(1, .cells [.int .i64 1, .int .i64 0, .int .i64 0] 23), (0, .cells [.int .i64 0, .int .i64 0, .int .i64 0] 23)], 2⟩ [True] (by kernel_rfl) ⟨trivial, trivial⟩ ?_
    refine endr (by kernel_rfl) ?_
    refine an ?_
    refine xw_seq ?_
    refine xw_seq ?_
    refine reg ?_
    refine runk TT_ok [(1, .bool (decide (0 < w)))] 2 0 [11, 5, 4, 1] [1, 0] ⟨[(11, .bool (decide (0 < w))), (5, .loc 1 0), (4, .loc 0 0), (1, .int .i64 w)], [(1, .cells [.int .i64 1, .int .i64 0, .int .i64 0] 23), (0, .cells [.int .i64 0, .int .i64 0, .int .i64 0] 23)], 2⟩ [(decide (0 < w)) = (decide (0 < w))] (by kernel_rfl) ⟨rfl, trivial⟩ ?_
    refine endr (by kernel_rfl) ?_
    refine an ?_
    refine xw_cond (b := (decide (0 < w))) (by kernel_rfl) (fun h1 => ?_) (fun h1 => ?_)
    · replace h1 : 0 < w := of_decide_eq_true h1
      refine reg ?_
      refine runk TT_ok [] 3 0 [5, 4] [1, 0] ⟨[(5, .loc 1 0), (4, .loc 0 0)], [(1, .cells [.int .i64 1, .int .i64 0, .int .i64 w] 23), (0, .cells [.int .i64 0, .int .i64 0, .int .i64 0] 23)], 2⟩ [True] (by kernel_rfl) ⟨trivial, trivial⟩ ?_
      refine endr (by kernel_rfl) ?_
      refine an ?_
      refine xw_seq ?_
      refine reg ?_
      refine runk TT_ok [] 2 0 [4] [0] ⟨[(4, .loc 0 0)], [(0, .cells [.int .i64 1, .int .i64 0, .int .i64 w] 23)], 2⟩ [True, True] (by kernel_rfl) ⟨trivial, trivial, trivial⟩ ?_
      refine endr (by kernel_rfl) ?_
      refine an ?_
      refine xw_ret ?_
      exact bk_ret (.agg [.int .i64 1, .int .i64 0, .int .i64 w]) (.agg [.int .i64 1, .int .i64 0, .int .i64 w]) (.agg [.int .i64 1, .int .i64 0, .int .i64 (max w 0)]) (by kernel_rfl) (by kernel_rfl) (wkd [(1 : Int) = 1, (0 : Int) = 0, (w : Int) = (max w 0)] (by kernel_rfl) ⟨rfl, rfl, (by omega), trivial⟩) (Or.inl <| ⟨(by omega), rfl⟩)
    · replace h1 : ¬ (0 < w) := of_decide_eq_false h1
      refine xw_skip ?_
      refine an ?_
      refine xw_seq ?_
      refine reg ?_
      refine runk TT_ok [] 2 0 [4] [0] ⟨[(4, .loc 0 0)], [(0, .cells [.int .i64 1, .int .i64 0, .int .i64 0] 23)], 2⟩ [True, True] (by kernel_rfl) ⟨trivial, trivial, trivial⟩ ?_
      refine endr (by kernel_rfl) ?_
      refine an ?_
      refine xw_ret ?_
      exact bk_ret (.agg [.int .i64 1, .int .i64 0, .int .i64 0]) (.agg [.int .i64 1, .int .i64 0, .int .i64 0]) (.agg [.int .i64 1, .int .i64 0, .int .i64 (max w 0)]) (by kernel_rfl) (by kernel_rfl) (wkd [(1 : Int) = 1, (0 : Int) = 0, (0 : Int) = (max w 0)] (by kernel_rfl) ⟨rfl, rfl, (by omega), trivial⟩) (Or.inl <| ⟨(by omega), rfl⟩)
  · replace h0 : s ≠ 1 := ne_of_beq_false h0
    refine xw_skip ?_
    refine an ?_
    refine xw_seq ?_
    refine xw_seq ?_
    refine reg ?_
    refine runk TT_ok [(1, .bool (decide (0 < w)))] 2 0 [11, 5, 4, 1] [1, 0] ⟨[(11, .bool (decide (0 < w))), (5, .loc 1 0), (4, .loc 0 0), (1, .int .i64 w)], [(1, .cells [.int .i64 0, .int .i64 0, .int .i64 0] 23), (0, .cells [.int .i64 0, .int .i64 0, .int .i64 0] 23)], 2⟩ [(decide (0 < w)) = (decide (0 < w))] (by kernel_rfl) ⟨rfl, trivial⟩ ?_
    refine endr (by kernel_rfl) ?_
    refine an ?_
    refine xw_cond (b := (decide (0 < w))) (by kernel_rfl) (fun h1 => ?_) (fun h1 => ?_)
    · replace h1 : 0 < w := of_decide_eq_true h1
      refine reg ?_
      refine runk TT_ok [] 3 0 [5, 4] [1, 0] ⟨[(5, .loc 1 0), (4, .loc 0 0)], [(1, .cells [.int .i64 0, .int .i64 0, .int .i64 w] 23), (0, .cells [.int .i64 0, .int .i64 0, .int .i64 0] 23)], 2⟩ [True] (by kernel_rfl) ⟨trivial, trivial⟩ ?_
      refine endr (by kernel_rfl) ?_
      refine an ?_
      refine xw_seq ?_
      refine reg ?_
      refine runk TT_ok [] 2 0 [4] [0] ⟨[(4, .loc 0 0)], [(0, .cells [.int .i64 0, .int .i64 0, .int .i64 w] 23)], 2⟩ [True, True] (by kernel_rfl) ⟨trivial, trivial, trivial⟩ ?_
      refine endr (by kernel_rfl) ?_
      refine an ?_
      refine xw_ret ?_
      exact bk_ret (.agg [.int .i64 0, .int .i64 0, .int .i64 w]) (.agg [.int .i64 0, .int .i64 0, .int .i64 w]) (.agg [.int .i64 0, .int .i64 0, .int .i64 (max w 0)]) (by kernel_rfl) (by kernel_rfl) (wkd [(0 : Int) = 0, (0 : Int) = 0, (w : Int) = (max w 0)] (by kernel_rfl) ⟨rfl, rfl, (by omega), trivial⟩) (Or.inr <| ⟨(by omega), rfl⟩)
    · replace h1 : ¬ (0 < w) := of_decide_eq_false h1
      refine xw_skip ?_
      refine an ?_
      refine xw_seq ?_
      refine reg ?_
      refine runk TT_ok [] 2 0 [4] [0] ⟨[(4, .loc 0 0)], [(0, .cells [.int .i64 0, .int .i64 0, .int .i64 0] 23)], 2⟩ [True, True] (by kernel_rfl) ⟨trivial, trivial, trivial⟩ ?_
      refine endr (by kernel_rfl) ?_
      refine an ?_
      refine xw_ret ?_
      exact bk_ret (.agg [.int .i64 0, .int .i64 0, .int .i64 0]) (.agg [.int .i64 0, .int .i64 0, .int .i64 0]) (.agg [.int .i64 0, .int .i64 0, .int .i64 (max w 0)]) (by kernel_rfl) (by kernel_rfl) (wkd [(0 : Int) = 0, (0 : Int) = 0, (0 : Int) = (max w 0)] (by kernel_rfl) ⟨rfl, rfl, (by omega), trivial⟩) (Or.inr <| ⟨(by omega), rfl⟩)

theorem rnew_1 (s : Int) (w : Int) (hp0 : s = 1) : Pub Try.prog 25 [.int .i64 s, .int .i64 w] (fun t => t = .agg [.int .i64 1, .int .i64 0, .int .i64 (max w 0)]) := by
  refine (rnew s w ).mono ?_
  rintro _ (⟨g0, rfl⟩ | ⟨g0, rfl⟩)
  · rfl
  · exfalso; first | omega | grind

theorem rnew_2 (s : Int) (w : Int) (hp0 : ¬ (s = 1)) : Pub Try.prog 25 [.int .i64 s, .int .i64 w] (fun t => t = .agg [.int .i64 0, .int .i64 0, .int .i64 (max w 0)]) := by
  refine (rnew s w ).mono ?_
  rintro _ (⟨g0, rfl⟩ | ⟨g0, rfl⟩)
  · exfalso; first | omega | grind
  · rfl

theorem take (s : Int) (a : Int) (l : Int) (n : Int) : Pub Try.prog 16 [.agg [.int .i64 s, .int .i64 a, .int .i64 l], .int .i64 n] (fun t => (((s = 0 ∨ s = 1) ∧ 0 ≤ a ∧ a ≤ l ∧ l ≤ 4096) ∧ (1 ≤ n) ∧ (n ≤ l - a) ∧ t = .tup [.agg [.int .i64 s, .int .i64 (a + n), .int .i64 l], .int .u64 ((s + 1) * 4294967296 + a), .int .i64 0]) ∨ (((s = 0 ∨ s = 1) ∧ 0 ≤ a ∧ a ≤ l ∧ l ≤ 4096) ∧ (1 ≤ n) ∧ (l - a < n) ∧ t = .tup [.agg [.int .i64 s, .int .i64 a, .int .i64 l], .int .u64 0, .int .i64 4]) ∨ ((¬ (((s = 0 ∨ s = 1) ∧ 0 ≤ a ∧ a ≤ l ∧ l ≤ 4096) ∧ 1 ≤ n)) ∧ t = .tup [.agg [.int .i64 s, .int .i64 a, .int .i64 l], .int .u64 0, .int .i64 1])) := by
  refine pub_of TT_ok Try.func16 rfl (by decide) (Nat.le_of_ble_eq_true (by kernel_rfl)) (by kernel_rfl) ?_
  refine xw_seq ?_
  refine reg ?_
  refine runk TT_ok [] 5 0 [6, 5, 4, 3, 2] [2, 1, 0] ⟨[(6, .int .i64 0), (5, .int .u64 0), (4, .loc 2 0), (3, .loc 1 0), (2, .loc 0 0)], [(2, .cells [.int .i64 0, .int .i64 0, .int .i64 0] 23), (1, .cells [.int .i64 n] 3), (0, .cells [.int .i64 s, .int .i64 a, .int .i64 l] 23)], 3⟩ [] (by kernel_rfl) trivial ?_
  refine endr (by kernel_rfl) ?_
  refine an ?_
  refine xw_seq ?_
  refine reg ?_
  refine runk TT_ok [] 1 0 [7, 6, 5, 4, 3, 2] [2, 1, 0] ⟨[(7, .int .i64 1), (6, .int .i64 0), (5, .int .u64 0), (4, .loc 2 0), (3, .loc 1 0), (2, .loc 0 0)], [(2, .cells [.int .i64 0, .int .i64 0, .int .i64 0] 23), (1, .cells [.int .i64 n] 3), (0, .cells [.int .i64 s, .int .i64 a, .int .i64 l] 23)], 3⟩ [] (by kernel_rfl) trivial ?_
  refine endr (by kernel_rfl) ?_
  refine an ?_
  refine xw_seq ?_
  refine reg ?_
  refine runk TT_ok [] 2 0 [8, 7, 6, 5, 4, 3, 2] [2, 1, 0] ⟨[(8, .fn 49 [] [.loc 1 0, .loc 0 0]), (7, .int .i64 1), (6, .int .i64 0), (5, .int .u64 0), (4, .loc 2 0), (3, .loc 1 0), (2, .loc 0 0)], [(2, .cells [.int .i64 0, .int .i64 0, .int .i64 0] 23), (1, .cells [.int .i64 n] 3), (0, .cells [.int .i64 s, .int .i64 a, .int .i64 l] 23)], 3⟩ [] (by kernel_rfl) trivial ?_
  refine endr (by kernel_rfl) ?_
  refine an ?_
  refine xw_seq ?_
  refine xw_block ?_
  refine xw_seq ?_
  refine xw_block ?_
  refine xw_seq ?_
  refine xw_block ?_
  refine xw_seq ?_
  refine xw_seq ?_
  refine reg ?_
  refine runk TT_ok [] 1 0 [12, 8, 7, 6, 5, 4, 3, 2] [2, 1, 0] ⟨[(12, .agg [.int .i64 s, .int .i64 a, .int .i64 l]), (8, .fn 49 [] [.loc 1 0, .loc 0 0]), (7, .int .i64 1), (6, .int .i64 0), (5, .int .u64 0), (4, .loc 2 0), (3, .loc 1 0), (2, .loc 0 0)], [(2, .cells [.int .i64 0, .int .i64 0, .int .i64 0] 23), (1, .cells [.int .i64 n] 3), (0, .cells [.int .i64 s, .int .i64 a, .int .i64 l] 23)], 3⟩ [True] (by kernel_rfl) ⟨trivial, trivial⟩ ?_
  by_cases h0 : (s = 0 ∨ s = 1) ∧ 0 ≤ a ∧ a ≤ l ∧ l ≤ 4096
  · skip
    refine pcall1 (args := [.agg [.int .i64 s, .int .i64 a, .int .i64 l]]) (args' := [.agg [.int .i64 s, .int .i64 a, .int .i64 l]]) (d := (some 13)) (sv := .bool true) (by kernel_rfl) (right_1 s a l (by omega)) [(s : Int) = s, (a : Int) = a, (l : Int) = l] (by kernel_rfl) ⟨rfl, rfl, rfl, trivial⟩ (by kernel_rfl) ?_
    refine runk TT_ok [(4, .bool (decide (1 ≤ n)))] 5 2 [11, 8, 7, 6, 5, 4, 3, 2] [2, 1, 0] ⟨[(11, .bool (decide (1 ≤ n))), (8, .fn 49 [] [.loc 1 0, .loc 0 0]), (7, .int .i64 1), (6, .int .i64 0), (5, .int .u64 0), (4, .loc 2 0), (3, .loc 1 0), (2, .loc 0 0)], [(2, .cells [.int .i64 0, .int .i64 0, .int .i64 0] 23), (1, .cells [.int .i64 n] 3), (0, .cells [.int .i64 s, .int .i64 a, .int .i64 l] 23)], 3⟩ [True, (decide (1 ≤ n)) = (decide (1 ≤ n)), True] (by kernel_rfl) ⟨trivial, rfl, trivial, trivial⟩ ?_
    refine endr (by kernel_rfl) ?_
    refine an ?_
    refine xw_cond (b := (decide (1 ≤ n))) (by kernel_rfl) (fun h1 => ?_) (fun h1 => ?_)
    · replace h1 : 1 ≤ n := of_decide_eq_true h1
      refine xw_exit ?_
      refine an_exit ?_
      refine ib_same ?_
      refine an ?_
      refine xw_seq ?_
      refine reg ?_
      refine runk TT_ok [] 1 0 [7, 8, 6, 5, 4, 3, 2] [2, 1, 0] ⟨[(7, .int .i64 4), (8, .fn 49 [] [.loc 1 0, .loc 0 0]), (6, .int .i64 0), (5, .int .u64 0), (4, .loc 2 0), (3, .loc 1 0), (2, .loc 0 0)], [(2, .cells [.int .i64 0, .int .i64 0, .int .i64 0] 23), (1, .cells [.int .i64 n] 3), (0, .cells [.int .i64 s, .int .i64 a, .int .i64 l] 23)], 3⟩ [] (by kernel_rfl) trivial ?_
      refine endr (by kernel_rfl) ?_
      refine an ?_
      refine xw_seq ?_
      refine reg ?_
      refine runk TT_ok [] 1 0 [18, 7, 6, 5, 4, 3, 2] [2, 1, 0] ⟨[(18, .fn 49 [] [.loc 1 0, .loc 0 0]), (7, .int .i64 4), (6, .int .i64 0), (5, .int .u64 0), (4, .loc 2 0), (3, .loc 1 0), (2, .loc 0 0)], [(2, .cells [.int .i64 0, .int .i64 0, .int .i64 0] 23), (1, .cells [.int .i64 n] 3), (0, .cells [.int .i64 s, .int .i64 a, .int .i64 l] 23)], 3⟩ [] (by kernel_rfl) trivial ?_
      refine callx (f := 49) (args := [.loc 1 0, .loc 0 0]) (d := (some 19)) (by kernel_rfl) (xcall_of TT_ok Try.func49 rfl (by decide) (by decide) ?_)
      refine xw_seq ?_
      refine reg ?_
      refine runk TT_ok [] 1 0 [2, 0, 1] [2, 1, 0] ⟨[(2, .bool false), (0, .loc 1 0), (1, .loc 0 0)], [(2, .cells [.int .i64 0, .int .i64 0, .int .i64 0] 23), (1, .cells [.int .i64 n] 3), (0, .cells [.int .i64 s, .int .i64 a, .int .i64 l] 23)], 3⟩ [] (by kernel_rfl) trivial ?_
      refine endr (by kernel_rfl) ?_
      refine an ?_
      refine xw_seq ?_
      refine dregk hmix (by kernel_rfl) ?_
      refine qrun' TT_ok [] 2 0 [(4, .agg [.int .i64 s, .int .i64 a, .int .i64 l]), (3, .int .i64 n), (2, .bool false), (0, .loc 1 0), (1, .loc 0 0)] [True, True] (by kernel_rfl) ⟨trivial, trivial, trivial⟩ ?_
      refine pqcall (args := [.agg [.int .i64 s, .int .i64 a, .int .i64 l]]) (args' := [.agg [.int .i64 s, .int .i64 a, .int .i64 l]]) (d := (some 5)) (sv := .int .i64 (l - a)) (by kernel_rfl) (left_1 s a l (by omega)) [(s : Int) = s, (a : Int) = a, (l : Int) = l] (by kernel_rfl) ⟨rfl, rfl, rfl, trivial⟩ (by kernel_rfl) ?_
      refine qrun' TT_ok [(3, .bool (decide (n ≤ (l - a))))] 2 3 [(2, .bool (decide (n ≤ (l - a)))), (6, .bool (decide (n ≤ (l - a)))), (5, .int .i64 (l - a)), (4, .agg [.int .i64 s, .int .i64 a, .int .i64 l]), (3, .int .i64 n), (2, .bool false), (0, .loc 1 0), (1, .loc 0 0)] [(decide (n ≤ (l - a))) = (decide (n ≤ (l - a)))] (by kernel_rfl) ⟨rfl, trivial⟩ ?_
      refine qend (by kernel_rfl) ?_
      refine an ?_
      refine xw_ret ?_
      refine ⟨.bool (decide (n ≤ (l - a))), by kernel_rfl, ?_⟩
      show XOi _ _ _ _ _ _ ⟨[(19, .bool (decide (n ≤ (l - a)))), (18, .fn 49 [] [.loc 1 0, .loc 0 0]), (7, .int .i64 4), (6, .int .i64 0), (5, .int .u64 0), (4, .loc 2 0), (3, .loc 1 0), (2, .loc 0 0)], [(2, .cells [.int .i64 0, .int .i64 0, .int .i64 0] 23), (1, .cells [.int .i64 n] 3), (0, .cells [.int .i64 s, .int .i64 a, .int .i64 l] 23)], 3⟩
      refine endr (by kernel_rfl) ?_
      refine an ?_
      refine xw_cond (b := (decide (n ≤ (l - a)))) (by kernel_rfl) (fun h2 => ?_) (fun h2 => ?_)
      · replace h2 : n ≤ (l - a) := of_decide_eq_true h2
        refine xw_exit ?_
        refine ib_exit (by kernel_rfl) ?_
        refine an_exit ?_
        refine ib_same ?_
        refine an ?_
        refine xw_seq ?_
        refine reg ?_
        refine runk TT_ok [] 4 0 [25, 23, 6, 5, 4, 3, 2] [2, 1, 0] ⟨[(25, .int .i64 a), (23, .int .i64 s), (6, .int .i64 0), (5, .int .u64 0), (4, .loc 2 0), (3, .loc 1 0), (2, .loc 0 0)], [(2, .cells [.int .i64 0, .int .i64 0, .int .i64 0] 23), (1, .cells [.int .i64 n] 3), (0, .cells [.int .i64 s, .int .i64 a, .int .i64 l] 23)], 3⟩ [True, True] (by kernel_rfl) ⟨trivial, trivial, trivial⟩ ?_
        refine pcall1 (args := [.int .i64 s, .int .i64 a]) (args' := [.int .i64 s, .int .i64 a]) (d := (some 26)) (sv := .int .u64 ((s + 1) * 4294967296 + a)) (by kernel_rfl) (addr_1 s a (by omega)) [(s : Int) = s, (a : Int) = a] (by kernel_rfl) ⟨rfl, rfl, trivial⟩ (by kernel_rfl) ?_
        refine runk TT_ok [] 1 5 [9, 6, 5, 4, 3, 2] [2, 1, 0] ⟨[(9, .int .u64 ((s + 1) * 4294967296 + a)), (6, .int .i64 0), (5, .int .u64 0), (4, .loc 2 0), (3, .loc 1 0), (2, .loc 0 0)], [(2, .cells [.int .i64 0, .int .i64 0, .int .i64 0] 23), (1, .cells [.int .i64 n] 3), (0, .cells [.int .i64 s, .int .i64 a, .int .i64 l] 23)], 3⟩ [] (by kernel_rfl) trivial ?_
        refine endr (by kernel_rfl) ?_
        refine an ?_
        refine xw_seq ?_
        refine reg ?_
        refine runk TT_ok [(3, .int .i64 (a + n))] 6 0 [9, 6, 5, 4, 2] [2, 0] ⟨[(9, .int .u64 ((s + 1) * 4294967296 + a)), (6, .int .i64 0), (5, .int .u64 0), (4, .loc 2 0), (2, .loc 0 0)], [(2, .cells [.int .i64 0, .int .i64 0, .int .i64 0] 23), (0, .cells [.int .i64 s, .int .i64 (a + n), .int .i64 l] 23)], 3⟩ [True, True, IntKind.i64.wrap (a + n) = (a + n), True] (by kernel_rfl) ⟨trivial, trivial, i64_eq (by omega) (by omega), trivial, trivial⟩ ?_
        refine endr (by kernel_rfl) ?_
        refine an ?_
        refine xw_seq ?_
        refine reg ?_
        refine runk TT_ok [] 5 0 [6, 5, 4] [2] ⟨[(6, .int .i64 0), (5, .int .u64 ((s + 1) * 4294967296 + a)), (4, .loc 2 0)], [(2, .cells [.int .i64 s, .int .i64 (a + n), .int .i64 l] 23)], 3⟩ [True, True] (by kernel_rfl) ⟨trivial, trivial, trivial⟩ ?_
        refine endr (by kernel_rfl) ?_
        refine an ?_
        refine xw_ret ?_
        exact bk_ret (.tup [.agg [.int .i64 s, .int .i64 (a + n), .int .i64 l], .int .u64 ((s + 1) * 4294967296 + a), .int .i64 0]) (.tup [.agg [.int .i64 s, .int .i64 (a + n), .int .i64 l], .int .u64 ((s + 1) * 4294967296 + a), .int .i64 0]) (.tup [.agg [.int .i64 s, .int .i64 (a + n), .int .i64 l], .int .u64 ((s + 1) * 4294967296 + a), .int .i64 0]) (by kernel_rfl) (by kernel_rfl) (wkd [(s : Int) = s, ((a + n) : Int) = (a + n), (l : Int) = l, (((s + 1) * 4294967296 + a) : Int) = ((s + 1) * 4294967296 + a), (0 : Int) = 0] (by kernel_rfl) ⟨rfl, rfl, rfl, rfl, rfl, trivial⟩) (Or.inl <| ⟨(by omega), (by omega), (by omega), rfl⟩)
      · replace h2 : ¬ (n ≤ (l - a)) := of_decide_eq_false h2
        refine xw_skip ?_
        refine ib ?_
        refine an ?_
        refine xw_seq ?_
        refine xw_seq ?_
        refine reg ?_
        refine runk TT_ok [] 5 0 [6, 5, 4, 3, 2] [2, 1, 0] ⟨[(6, .int .i64 4), (5, .int .u64 0), (4, .loc 2 0), (3, .loc 1 0), (2, .loc 0 0)], [(2, .cells [.int .i64 s, .int .i64 a, .int .i64 l] 23), (1, .cells [.int .i64 n] 3), (0, .cells [.int .i64 s, .int .i64 a, .int .i64 l] 23)], 3⟩ [True, True] (by kernel_rfl) ⟨trivial, trivial, trivial⟩ ?_
        refine endr (by kernel_rfl) ?_
        refine an ?_
        refine xw_ret ?_
        refine an_ret ?_
        refine ib_ret ?_
        refine an_ret ?_
        exact bk_ret (.tup [.agg [.int .i64 s, .int .i64 a, .int .i64 l], .int .u64 0, .int .i64 4]) (.tup [.agg [.int .i64 s, .int .i64 a, .int .i64 l], .int .u64 0, .int .i64 4]) (.tup [.agg [.int .i64 s, .int .i64 a, .int .i64 l], .int .u64 0, .int .i64 4]) (by kernel_rfl) (by kernel_rfl) (wkd [(s : Int) = s, (a : Int) = a, (l : Int) = l, (0 : Int) = 0, (4 : Int) = 4] (by kernel_rfl) ⟨rfl, rfl, rfl, rfl, rfl, trivial⟩) (Or.inr <| Or.inl <| ⟨(by omega), (by omega), (by omega), rfl⟩)
    · replace h1 : ¬ (1 ≤ n) := of_decide_eq_false h1
      refine xw_skip ?_
      refine an ?_
      refine xw_exit ?_
      refine ib_exit (by kernel_rfl) ?_
      refine an_exit ?_
      refine ib_same ?_
      refine an ?_
      refine xw_seq ?_
      refine xw_seq ?_
      refine reg ?_
      refine runk TT_ok [] 5 0 [6, 5, 4, 3, 2] [2, 1, 0] ⟨[(6, .int .i64 1), (5, .int .u64 0), (4, .loc 2 0), (3, .loc 1 0), (2, .loc 0 0)], [(2, .cells [.int .i64 s, .int .i64 a, .int .i64 l] 23), (1, .cells [.int .i64 n] 3), (0, .cells [.int .i64 s, .int .i64 a, .int .i64 l] 23)], 3⟩ [True, True] (by kernel_rfl) ⟨trivial, trivial, trivial⟩ ?_
      refine endr (by kernel_rfl) ?_
      refine an ?_
      refine xw_ret ?_
      refine an_ret ?_
      refine ib_ret ?_
      refine an_ret ?_
      exact bk_ret (.tup [.agg [.int .i64 s, .int .i64 a, .int .i64 l], .int .u64 0, .int .i64 1]) (.tup [.agg [.int .i64 s, .int .i64 a, .int .i64 l], .int .u64 0, .int .i64 1]) (.tup [.agg [.int .i64 s, .int .i64 a, .int .i64 l], .int .u64 0, .int .i64 1]) (by kernel_rfl) (by kernel_rfl) (wkd [(s : Int) = s, (a : Int) = a, (l : Int) = l, (0 : Int) = 0, (1 : Int) = 1] (by kernel_rfl) ⟨rfl, rfl, rfl, rfl, rfl, trivial⟩) (Or.inr <| Or.inr <| ⟨(by omega), rfl⟩)
  · skip
    refine pcall1 (args := [.agg [.int .i64 s, .int .i64 a, .int .i64 l]]) (args' := [.agg [.int .i64 s, .int .i64 a, .int .i64 l]]) (d := (some 13)) (sv := .bool false) (by kernel_rfl) (right_2 s a l (by omega)) [(s : Int) = s, (a : Int) = a, (l : Int) = l] (by kernel_rfl) ⟨rfl, rfl, rfl, trivial⟩ (by kernel_rfl) ?_
    refine runk TT_ok [] 5 2 [11, 8, 7, 6, 5, 4, 3, 2] [2, 1, 0] ⟨[(11, .bool false), (8, .fn 49 [] [.loc 1 0, .loc 0 0]), (7, .int .i64 1), (6, .int .i64 0), (5, .int .u64 0), (4, .loc 2 0), (3, .loc 1 0), (2, .loc 0 0)], [(2, .cells [.int .i64 0, .int .i64 0, .int .i64 0] 23), (1, .cells [.int .i64 n] 3), (0, .cells [.int .i64 s, .int .i64 a, .int .i64 l] 23)], 3⟩ [True] (by kernel_rfl) ⟨trivial, trivial⟩ ?_
    refine endr (by kernel_rfl) ?_
    refine an ?_
    refine xw_false (by kernel_rfl) ?_
    refine xw_skip ?_
    refine an ?_
    refine xw_exit ?_
    refine ib_exit (by kernel_rfl) ?_
    refine an_exit ?_
    refine ib_same ?_
    refine an ?_
    refine xw_seq ?_
    refine xw_seq ?_
    refine reg ?_
    refine runk TT_ok [] 5 0 [6, 5, 4, 3, 2] [2, 1, 0] ⟨[(6, .int .i64 1), (5, .int .u64 0), (4, .loc 2 0), (3, .loc 1 0), (2, .loc 0 0)], [(2, .cells [.int .i64 s, .int .i64 a, .int .i64 l] 23), (1, .cells [.int .i64 n] 3), (0, .cells [.int .i64 s, .int .i64 a, .int .i64 l] 23)], 3⟩ [True, True] (by kernel_rfl) ⟨trivial, trivial, trivial⟩ ?_
    refine endr (by kernel_rfl) ?_
    refine an ?_
    refine xw_ret ?_
    refine an_ret ?_
    refine ib_ret ?_
    refine an_ret ?_
    exact bk_ret (.tup [.agg [.int .i64 s, .int .i64 a, .int .i64 l], .int .u64 0, .int .i64 1]) (.tup [.agg [.int .i64 s, .int .i64 a, .int .i64 l], .int .u64 0, .int .i64 1]) (.tup [.agg [.int .i64 s, .int .i64 a, .int .i64 l], .int .u64 0, .int .i64 1]) (by kernel_rfl) (by kernel_rfl) (wkd [(s : Int) = s, (a : Int) = a, (l : Int) = l, (0 : Int) = 0, (1 : Int) = 1] (by kernel_rfl) ⟨rfl, rfl, rfl, rfl, rfl, trivial⟩) (Or.inr <| Or.inr <| ⟨(by omega), rfl⟩)

theorem take_1 (s : Int) (a : Int) (l : Int) (n : Int) (hp0 : (s = 0 ∨ s = 1) ∧ 0 ≤ a ∧ a ≤ l ∧ l ≤ 4096) (hp1 : 1 ≤ n) (hp2 : n ≤ l - a) : Pub Try.prog 16 [.agg [.int .i64 s, .int .i64 a, .int .i64 l], .int .i64 n] (fun t => t = .tup [.agg [.int .i64 s, .int .i64 (a + n), .int .i64 l], .int .u64 ((s + 1) * 4294967296 + a), .int .i64 0]) := by
  refine (take s a l n ).mono ?_
  rintro _ (⟨g0, g1, g2, rfl⟩ | ⟨g0, g1, g2, rfl⟩ | ⟨g0, rfl⟩)
  · rfl
  · exfalso; first | omega | grind
  · exfalso; first | omega | grind

theorem take_2 (s : Int) (a : Int) (l : Int) (n : Int) (hp0 : (s = 0 ∨ s = 1) ∧ 0 ≤ a ∧ a ≤ l ∧ l ≤ 4096) (hp1 : 1 ≤ n) (hp2 : l - a < n) : Pub Try.prog 16 [.agg [.int .i64 s, .int .i64 a, .int .i64 l], .int .i64 n] (fun t => t = .tup [.agg [.int .i64 s, .int .i64 a, .int .i64 l], .int .u64 0, .int .i64 4]) := by
  refine (take s a l n ).mono ?_
  rintro _ (⟨g0, g1, g2, rfl⟩ | ⟨g0, g1, g2, rfl⟩ | ⟨g0, rfl⟩)
  · exfalso; first | omega | grind
  · rfl
  · exfalso; first | omega | grind

theorem take_3 (s : Int) (a : Int) (l : Int) (n : Int) (hp0 : ¬ (((s = 0 ∨ s = 1) ∧ 0 ≤ a ∧ a ≤ l ∧ l ≤ 4096) ∧ 1 ≤ n)) : Pub Try.prog 16 [.agg [.int .i64 s, .int .i64 a, .int .i64 l], .int .i64 n] (fun t => t = .tup [.agg [.int .i64 s, .int .i64 a, .int .i64 l], .int .u64 0, .int .i64 1]) := by
  refine (take s a l n ).mono ?_
  rintro _ (⟨g0, g1, g2, rfl⟩ | ⟨g0, g1, g2, rfl⟩ | ⟨g0, rfl⟩)
  · exfalso; first | omega | grind
  · exfalso; first | omega | grind
  · rfl

theorem most (s : Int) (a : Int) (l : Int) (n : Int) : Pub Try.prog 21 [.agg [.int .i64 s, .int .i64 a, .int .i64 l], .int .i64 n] (fun t => (((s = 0 ∨ s = 1) ∧ 0 ≤ a ∧ a ≤ l ∧ l ≤ 4096) ∧ (1 ≤ n) ∧ (n ≤ l - a) ∧ t = .tup [.agg [.int .i64 s, .int .i64 (a + n), .int .i64 l], .int .u64 ((s + 1) * 4294967296 + a), .int .i64 n]) ∨ (((s = 0 ∨ s = 1) ∧ 0 ≤ a ∧ a ≤ l ∧ l ≤ 4096) ∧ (l - a < n) ∧ (0 < l - a) ∧ t = .tup [.agg [.int .i64 s, .int .i64 l, .int .i64 l], .int .u64 ((s + 1) * 4294967296 + a), .int .i64 (l - a)]) ∨ ((¬ (((s = 0 ∨ s = 1) ∧ 0 ≤ a ∧ a ≤ l ∧ l ≤ 4096) ∧ 1 ≤ n ∧ 0 < l - a)) ∧ t = .tup [.agg [.int .i64 s, .int .i64 a, .int .i64 l], .int .u64 0, .int .i64 0])) := by
  refine pub_of TT_ok Try.func21 rfl (by decide) (Nat.le_of_ble_eq_true (by kernel_rfl)) (by kernel_rfl) ?_
  refine xw_seq ?_
  refine reg ?_
  refine runk TT_ok [] 4 0 [6, 5, 4, 2, 1] [1, 0] ⟨[(6, .int .i64 0), (5, .int .u64 0), (4, .loc 1 0), (2, .loc 0 0), (1, .int .i64 n)], [(1, .cells [.int .i64 0, .int .i64 0, .int .i64 0] 23), (0, .cells [.int .i64 s, .int .i64 a, .int .i64 l] 23)], 2⟩ [] (by kernel_rfl) trivial ?_
  refine endr (by kernel_rfl) ?_
  refine an ?_
  refine xw_scope (α := {q : Int // ((s = 0 ∨ s = 1) ∧ 0 ≤ a ∧ a ≤ l ∧ l ≤ 4096) ∧ (q = l - a) ∧ (0 < q) ∧ (l - a < n)}) 0 rfl (fun p => ⟨[(6, .int .i64 0), (5, .int .u64 0), (4, .loc 1 0), (2, .loc 0 0), (1, .int .i64 p.1)], [(1, .cells [.int .i64 0, .int .i64 0, .int .i64 0] 23), (0, .cells [.int .i64 s, .int .i64 a, .int .i64 l] 23)], 2⟩) (fun p => 0) ?_ ?_
  · skip
    refine xw_seq ?_
    refine xw_label ?_
    refine an ?_
    refine xw_seq ?_
    refine reg ?_
    refine runk TT_ok [] 2 0 [12, 11, 6, 5, 4, 2, 1] [1, 0] ⟨[(12, .int .i64 n), (11, .agg [.int .i64 s, .int .i64 a, .int .i64 l]), (6, .int .i64 0), (5, .int .u64 0), (4, .loc 1 0), (2, .loc 0 0), (1, .int .i64 n)], [(1, .cells [.int .i64 0, .int .i64 0, .int .i64 0] 23), (0, .cells [.int .i64 s, .int .i64 a, .int .i64 l] 23)], 2⟩ [True] (by kernel_rfl) ⟨trivial, trivial⟩ ?_
    by_cases h0 : ((s = 0 ∨ s = 1) ∧ 0 ≤ a ∧ a ≤ l ∧ l ≤ 4096) ∧ (1 ≤ n) ∧ (n ≤ l - a)
    · skip
      refine pcall1 (args := [.agg [.int .i64 s, .int .i64 a, .int .i64 l], .int .i64 n]) (args' := [.agg [.int .i64 s, .int .i64 a, .int .i64 l], .int .i64 n]) (d := (some 13)) (sv := .tup [.agg [.int .i64 s, .int .i64 (a + n), .int .i64 l], .int .u64 ((s + 1) * 4294967296 + a), .int .i64 0]) (by kernel_rfl) (take_1 s a l n (by omega) (by omega) (by omega)) [(s : Int) = s, (a : Int) = a, (l : Int) = l, (n : Int) = n] (by kernel_rfl) ⟨rfl, rfl, rfl, rfl, trivial⟩ (by kernel_rfl) ?_
      refine runk TT_ok [] 8 3 [9, 8, 7, 16, 15, 14, 10, 13, 12, 11, 6, 5, 4, 2, 1] [2, 1, 0] ⟨[(9, .int .i64 0), (8, .int .u64 ((s + 1) * 4294967296 + a)), (7, .loc 2 0), (16, .int .i64 0), (15, .int .u64 ((s + 1) * 4294967296 + a)), (14, .agg [.int .i64 s, .int .i64 (a + n), .int .i64 l]), (10, .tup [.agg [.int .i64 s, .int .i64 (a + n), .int .i64 l], .int .u64 ((s + 1) * 4294967296 + a), .int .i64 0]), (13, .tup [.agg [.int .i64 s, .int .i64 (a + n), .int .i64 l], .int .u64 ((s + 1) * 4294967296 + a), .int .i64 0]), (12, .int .i64 n), (11, .agg [.int .i64 s, .int .i64 a, .int .i64 l]), (6, .int .i64 0), (5, .int .u64 0), (4, .loc 1 0), (2, .loc 0 0), (1, .int .i64 n)], [(2, .cells [.int .i64 s, .int .i64 (a + n), .int .i64 l] 23), (1, .cells [.int .i64 0, .int .i64 0, .int .i64 0] 23), (0, .cells [.int .i64 s, .int .i64 a, .int .i64 l] 23)], 3⟩ [True] (by kernel_rfl) ⟨trivial, trivial⟩ ?_
      refine endr (by kernel_rfl) ?_
      refine an ?_
      refine xw_seq ?_
      refine xw_seq ?_
      refine reg ?_
      refine runk TT_ok [(1, .bool false)] 7 0 [23, 22, 21, 20, 19, 18, 17, 9, 8, 7, 16, 15, 14, 10, 13, 12, 11, 6, 5, 4, 2, 1] [2, 1, 0] ⟨[(23, .bool false), (22, .tup []), (21, .tup []), (20, .tup []), (19, .bool false), (18, .bool false), (17, .int .i64 0), (9, .int .i64 0), (8, .int .u64 ((s + 1) * 4294967296 + a)), (7, .loc 2 0), (16, .int .i64 0), (15, .int .u64 ((s + 1) * 4294967296 + a)), (14, .agg [.int .i64 s, .int .i64 (a + n), .int .i64 l]), (10, .tup [.agg [.int .i64 s, .int .i64 (a + n), .int .i64 l], .int .u64 ((s + 1) * 4294967296 + a), .int .i64 0]), (13, .tup [.agg [.int .i64 s, .int .i64 (a + n), .int .i64 l], .int .u64 ((s + 1) * 4294967296 + a), .int .i64 0]), (12, .int .i64 n), (11, .agg [.int .i64 s, .int .i64 a, .int .i64 l]), (6, .int .i64 0), (5, .int .u64 0), (4, .loc 1 0), (2, .loc 0 0), (1, .int .i64 n)], [(2, .cells [.int .i64 s, .int .i64 (a + n), .int .i64 l] 23), (1, .cells [.int .i64 0, .int .i64 0, .int .i64 0] 23), (0, .cells [.int .i64 s, .int .i64 a, .int .i64 l] 23)], 3⟩ [(0 == 4) = false, True] (by kernel_rfl) ⟨beq_eq_false_iff_ne.2 (by omega), trivial, trivial⟩ ?_
      refine endr (by kernel_rfl) ?_
      refine an ?_
      refine xw_false (by kernel_rfl) ?_
      refine xw_skip ?_
      refine an ?_
      refine xw_seq ?_
      refine xw_seq ?_
      refine reg ?_
      refine runk TT_ok [(1, .bool false)] 2 0 [27, 26, 23, 22, 21, 20, 19, 18, 17, 9, 8, 7, 16, 15, 14, 10, 13, 12, 11, 6, 5, 4, 2, 1] [2, 1, 0] ⟨[(27, .bool false), (26, .int .i64 0), (23, .bool false), (22, .tup []), (21, .tup []), (20, .tup []), (19, .bool false), (18, .bool false), (17, .int .i64 0), (9, .int .i64 0), (8, .int .u64 ((s + 1) * 4294967296 + a)), (7, .loc 2 0), (16, .int .i64 0), (15, .int .u64 ((s + 1) * 4294967296 + a)), (14, .agg [.int .i64 s, .int .i64 (a + n), .int .i64 l]), (10, .tup [.agg [.int .i64 s, .int .i64 (a + n), .int .i64 l], .int .u64 ((s + 1) * 4294967296 + a), .int .i64 0]), (13, .tup [.agg [.int .i64 s, .int .i64 (a + n), .int .i64 l], .int .u64 ((s + 1) * 4294967296 + a), .int .i64 0]), (12, .int .i64 n), (11, .agg [.int .i64 s, .int .i64 a, .int .i64 l]), (6, .int .i64 0), (5, .int .u64 0), (4, .loc 1 0), (2, .loc 0 0), (1, .int .i64 n)], [(2, .cells [.int .i64 s, .int .i64 (a + n), .int .i64 l] 23), (1, .cells [.int .i64 0, .int .i64 0, .int .i64 0] 23), (0, .cells [.int .i64 s, .int .i64 a, .int .i64 l] 23)], 3⟩ [(0 != 0) = false] (by kernel_rfl) ⟨bne_eq_false_iff_eq.2 (by omega), trivial⟩ ?_
      refine endr (by kernel_rfl) ?_
      refine an ?_
      refine xw_false (by kernel_rfl) ?_
      refine xw_skip ?_
      refine an ?_
      refine xw_seq ?_
      refine reg ?_
      refine runk TT_ok [] 6 0 [6, 5, 31, 30, 29, 27, 26, 23, 22, 21, 20, 19, 18, 17, 9, 8, 7, 16, 15, 14, 10, 13, 12, 11, 4, 2, 1] [2, 1, 0] ⟨[(6, .int .i64 n), (5, .int .u64 ((s + 1) * 4294967296 + a)), (31, .int .i64 n), (30, .int .u64 ((s + 1) * 4294967296 + a)), (29, .agg [.int .i64 s, .int .i64 (a + n), .int .i64 l]), (27, .bool false), (26, .int .i64 0), (23, .bool false), (22, .tup []), (21, .tup []), (20, .tup []), (19, .bool false), (18, .bool false), (17, .int .i64 0), (9, .int .i64 0), (8, .int .u64 ((s + 1) * 4294967296 + a)), (7, .loc 2 0), (16, .int .i64 0), (15, .int .u64 ((s + 1) * 4294967296 + a)), (14, .agg [.int .i64 s, .int .i64 (a + n), .int .i64 l]), (10, .tup [.agg [.int .i64 s, .int .i64 (a + n), .int .i64 l], .int .u64 ((s + 1) * 4294967296 + a), .int .i64 0]), (13, .tup [.agg [.int .i64 s, .int .i64 (a + n), .int .i64 l], .int .u64 ((s + 1) * 4294967296 + a), .int .i64 0]), (12, .int .i64 n), (11, .agg [.int .i64 s, .int .i64 a, .int .i64 l]), (4, .loc 1 0), (2, .loc 0 0), (1, .int .i64 n)], [(2, .cells [.int .i64 s, .int .i64 (a + n), .int .i64 l] 23), (1, .cells [.int .i64 s, .int .i64 (a + n), .int .i64 l] 23), (0, .cells [.int .i64 s, .int .i64 a, .int .i64 l] 23)], 3⟩ [True, True] (by kernel_rfl) ⟨trivial, trivial, trivial⟩ ?_
      refine endr (by kernel_rfl) ?_
      refine an ?_
      refine xw_ret ?_
      refine j0_ret ?_
      exact bk_ret (.tup [.agg [.int .i64 s, .int .i64 (a + n), .int .i64 l], .int .u64 ((s + 1) * 4294967296 + a), .int .i64 n]) (.tup [.agg [.int .i64 s, .int .i64 (a + n), .int .i64 l], .int .u64 ((s + 1) * 4294967296 + a), .int .i64 n]) (.tup [.agg [.int .i64 s, .int .i64 (a + n), .int .i64 l], .int .u64 ((s + 1) * 4294967296 + a), .int .i64 n]) (by kernel_rfl) (by kernel_rfl) (wkd [(s : Int) = s, ((a + n) : Int) = (a + n), (l : Int) = l, (((s + 1) * 4294967296 + a) : Int) = ((s + 1) * 4294967296 + a), (n : Int) = n] (by kernel_rfl) ⟨rfl, rfl, rfl, rfl, rfl, trivial⟩) (Or.inl <| ⟨(by omega), (by omega), (by omega), rfl⟩)
    · skip
      by_cases h1 : ((s = 0 ∨ s = 1) ∧ 0 ≤ a ∧ a ≤ l ∧ l ≤ 4096) ∧ (1 ≤ n) ∧ (l - a < n)
      · skip
        refine pcall1 (args := [.agg [.int .i64 s, .int .i64 a, .int .i64 l], .int .i64 n]) (args' := [.agg [.int .i64 s, .int .i64 a, .int .i64 l], .int .i64 n]) (d := (some 13)) (sv := .tup [.agg [.int .i64 s, .int .i64 a, .int .i64 l], .int .u64 0, .int .i64 4]) (by kernel_rfl) (take_2 s a l n (by omega) (by omega) (by omega)) [(s : Int) = s, (a : Int) = a, (l : Int) = l, (n : Int) = n] (by kernel_rfl) ⟨rfl, rfl, rfl, rfl, trivial⟩ (by kernel_rfl) ?_
        refine runk TT_ok [] 8 3 [9, 8, 7, 16, 15, 14, 10, 13, 12, 11, 6, 5, 4, 2, 1] [2, 1, 0] ⟨[(9, .int .i64 4), (8, .int .u64 0), (7, .loc 2 0), (16, .int .i64 4), (15, .int .u64 0), (14, .agg [.int .i64 s, .int .i64 a, .int .i64 l]), (10, .tup [.agg [.int .i64 s, .int .i64 a, .int .i64 l], .int .u64 0, .int .i64 4]), (13, .tup [.agg [.int .i64 s, .int .i64 a, .int .i64 l], .int .u64 0, .int .i64 4]), (12, .int .i64 n), (11, .agg [.int .i64 s, .int .i64 a, .int .i64 l]), (6, .int .i64 0), (5, .int .u64 0), (4, .loc 1 0), (2, .loc 0 0), (1, .int .i64 n)], [(2, .cells [.int .i64 s, .int .i64 a, .int .i64 l] 23), (1, .cells [.int .i64 0, .int .i64 0, .int .i64 0] 23), (0, .cells [.int .i64 s, .int .i64 a, .int .i64 l] 23)], 3⟩ [True] (by kernel_rfl) ⟨trivial, trivial⟩ ?_
        refine endr (by kernel_rfl) ?_
        refine an ?_
        refine xw_seq ?_
        refine xw_seq ?_
        refine reg ?_
        refine runk TT_ok [(1, .bool true)] 4 0 [20, 19, 18, 17, 9, 8, 7, 16, 15, 14, 10, 13, 12, 11, 6, 5, 4, 2, 1] [2, 1, 0] ⟨[(20, .agg [.int .i64 s, .int .i64 a, .int .i64 l]), (19, .bool true), (18, .bool true), (17, .int .i64 4), (9, .int .i64 4), (8, .int .u64 0), (7, .loc 2 0), (16, .int .i64 4), (15, .int .u64 0), (14, .agg [.int .i64 s, .int .i64 a, .int .i64 l]), (10, .tup [.agg [.int .i64 s, .int .i64 a, .int .i64 l], .int .u64 0, .int .i64 4]), (13, .tup [.agg [.int .i64 s, .int .i64 a, .int .i64 l], .int .u64 0, .int .i64 4]), (12, .int .i64 n), (11, .agg [.int .i64 s, .int .i64 a, .int .i64 l]), (6, .int .i64 0), (5, .int .u64 0), (4, .loc 1 0), (2, .loc 0 0), (1, .int .i64 n)], [(2, .cells [.int .i64 s, .int .i64 a, .int .i64 l] 23), (1, .cells [.int .i64 0, .int .i64 0, .int .i64 0] 23), (0, .cells [.int .i64 s, .int .i64 a, .int .i64 l] 23)], 3⟩ [(4 == 4) = true, True] (by kernel_rfl) ⟨beq_iff_eq.2 (by omega), trivial, trivial⟩ ?_
        refine pcall1 (args := [.agg [.int .i64 s, .int .i64 a, .int .i64 l]]) (args' := [.agg [.int .i64 s, .int .i64 a, .int .i64 l]]) (d := (some 21)) (sv := .int .i64 (l - a)) (by kernel_rfl) (left_1 s a l (by omega)) [(s : Int) = s, (a : Int) = a, (l : Int) = l] (by kernel_rfl) ⟨rfl, rfl, rfl, trivial⟩ (by kernel_rfl) ?_
        refine runk TT_ok [(5, .bool (decide (0 < (l - a))))] 2 5 [23, 22, 21, 20, 19, 18, 17, 9, 8, 7, 16, 15, 14, 10, 13, 12, 11, 6, 5, 4, 2, 1] [2, 1, 0] ⟨[(23, .bool (decide (0 < (l - a)))), (22, .bool (decide (0 < (l - a)))), (21, .int .i64 (l - a)), (20, .agg [.int .i64 s, .int .i64 a, .int .i64 l]), (19, .bool true), (18, .bool true), (17, .int .i64 4), (9, .int .i64 4), (8, .int .u64 0), (7, .loc 2 0), (16, .int .i64 4), (15, .int .u64 0), (14, .agg [.int .i64 s, .int .i64 a, .int .i64 l]), (10, .tup [.agg [.int .i64 s, .int .i64 a, .int .i64 l], .int .u64 0, .int .i64 4]), (13, .tup [.agg [.int .i64 s, .int .i64 a, .int .i64 l], .int .u64 0, .int .i64 4]), (12, .int .i64 n), (11, .agg [.int .i64 s, .int .i64 a, .int .i64 l]), (6, .int .i64 0), (5, .int .u64 0), (4, .loc 1 0), (2, .loc 0 0), (1, .int .i64 n)], [(2, .cells [.int .i64 s, .int .i64 a, .int .i64 l] 23), (1, .cells [.int .i64 0, .int .i64 0, .int .i64 0] 23), (0, .cells [.int .i64 s, .int .i64 a, .int .i64 l] 23)], 3⟩ [(decide (0 < (l - a))) = (decide (0 < (l - a))), True] (by kernel_rfl) ⟨rfl, trivial, trivial⟩ ?_
        refine endr (by kernel_rfl) ?_
        refine an ?_
        refine xw_cond (b := (decide (0 < (l - a)))) (by kernel_rfl) (fun h2 => ?_) (fun h2 => ?_)
        · replace h2 : 0 < (l - a) := of_decide_eq_true h2
          refine xw_seq ?_
          refine reg ?_
          refine runk TT_ok [] 1 0 [24, 23, 22, 21, 20, 19, 18, 17, 9, 8, 7, 16, 15, 14, 10, 13, 12, 11, 6, 5, 4, 2, 1] [2, 1, 0] ⟨[(24, .agg [.int .i64 s, .int .i64 a, .int .i64 l]), (23, .bool (decide (0 < (l - a)))), (22, .bool (decide (0 < (l - a)))), (21, .int .i64 (l - a)), (20, .agg [.int .i64 s, .int .i64 a, .int .i64 l]), (19, .bool true), (18, .bool true), (17, .int .i64 4), (9, .int .i64 4), (8, .int .u64 0), (7, .loc 2 0), (16, .int .i64 4), (15, .int .u64 0), (14, .agg [.int .i64 s, .int .i64 a, .int .i64 l]), (10, .tup [.agg [.int .i64 s, .int .i64 a, .int .i64 l], .int .u64 0, .int .i64 4]), (13, .tup [.agg [.int .i64 s, .int .i64 a, .int .i64 l], .int .u64 0, .int .i64 4]), (12, .int .i64 n), (11, .agg [.int .i64 s, .int .i64 a, .int .i64 l]), (6, .int .i64 0), (5, .int .u64 0), (4, .loc 1 0), (2, .loc 0 0), (1, .int .i64 n)], [(2, .cells [.int .i64 s, .int .i64 a, .int .i64 l] 23), (1, .cells [.int .i64 0, .int .i64 0, .int .i64 0] 23), (0, .cells [.int .i64 s, .int .i64 a, .int .i64 l] 23)], 3⟩ [True] (by kernel_rfl) ⟨trivial, trivial⟩ ?_
          refine pcall1 (args := [.agg [.int .i64 s, .int .i64 a, .int .i64 l]]) (args' := [.agg [.int .i64 s, .int .i64 a, .int .i64 l]]) (d := (some 25)) (sv := .int .i64 (l - a)) (by kernel_rfl) (left_1 s a l (by omega)) [(s : Int) = s, (a : Int) = a, (l : Int) = l] (by kernel_rfl) ⟨rfl, rfl, rfl, trivial⟩ (by kernel_rfl) ?_
          refine runk TT_ok [] 1 2 [1, 25, 24, 23, 22, 21, 20, 19, 18, 17, 9, 8, 7, 16, 15, 14, 10, 13, 12, 11, 6, 5, 4, 2] [2, 1, 0] ⟨[(1, .int .i64 (l - a)), (25, .int .i64 (l - a)), (24, .agg [.int .i64 s, .int .i64 a, .int .i64 l]), (23, .bool (decide (0 < (l - a)))), (22, .bool (decide (0 < (l - a)))), (21, .int .i64 (l - a)), (20, .agg [.int .i64 s, .int .i64 a, .int .i64 l]), (19, .bool true), (18, .bool true), (17, .int .i64 4), (9, .int .i64 4), (8, .int .u64 0), (7, .loc 2 0), (16, .int .i64 4), (15, .int .u64 0), (14, .agg [.int .i64 s, .int .i64 a, .int .i64 l]), (10, .tup [.agg [.int .i64 s, .int .i64 a, .int .i64 l], .int .u64 0, .int .i64 4]), (13, .tup [.agg [.int .i64 s, .int .i64 a, .int .i64 l], .int .u64 0, .int .i64 4]), (12, .int .i64 n), (11, .agg [.int .i64 s, .int .i64 a, .int .i64 l]), (6, .int .i64 0), (5, .int .u64 0), (4, .loc 1 0), (2, .loc 0 0)], [(2, .cells [.int .i64 s, .int .i64 a, .int .i64 l] 23), (1, .cells [.int .i64 0, .int .i64 0, .int .i64 0] 23), (0, .cells [.int .i64 s, .int .i64 a, .int .i64 l] 23)], 3⟩ [] (by kernel_rfl) trivial ?_
          refine endr (by kernel_rfl) ?_
          refine an ?_
          refine xw_goto ?_
          refine an_goto ?_
          exact j0_goto ⟨(l - a), ⟨(by omega), (by omega), (by omega), (by omega)⟩⟩ (le_of [] [(0 : Int) = 0, (0 : Int) = 0, ((l - a) : Int) = (l - a), (0 : Int) = 0, (0 : Int) = 0, (0 : Int) = 0, (s : Int) = s, (a : Int) = a, (l : Int) = l] (by kernel_rfl) ⟨rfl, rfl, rfl, rfl, rfl, rfl, rfl, rfl, rfl, trivial⟩)
        · replace h2 : ¬ (0 < (l - a)) := of_decide_eq_false h2
          refine xw_skip ?_
          refine an ?_
          refine xw_seq ?_
          refine xw_seq ?_
          refine reg ?_
          refine runk TT_ok [(1, .bool true)] 2 0 [27, 26, 23, 22, 21, 20, 19, 18, 17, 9, 8, 7, 16, 15, 14, 10, 13, 12, 11, 6, 5, 4, 2, 1] [2, 1, 0] ⟨[(27, .bool true), (26, .int .i64 4), (23, .bool (decide (0 < (l - a)))), (22, .bool (decide (0 < (l - a)))), (21, .int .i64 (l - a)), (20, .agg [.int .i64 s, .int .i64 a, .int .i64 l]), (19, .bool true), (18, .bool true), (17, .int .i64 4), (9, .int .i64 4), (8, .int .u64 0), (7, .loc 2 0), (16, .int .i64 4), (15, .int .u64 0), (14, .agg [.int .i64 s, .int .i64 a, .int .i64 l]), (10, .tup [.agg [.int .i64 s, .int .i64 a, .int .i64 l], .int .u64 0, .int .i64 4]), (13, .tup [.agg [.int .i64 s, .int .i64 a, .int .i64 l], .int .u64 0, .int .i64 4]), (12, .int .i64 n), (11, .agg [.int .i64 s, .int .i64 a, .int .i64 l]), (6, .int .i64 0), (5, .int .u64 0), (4, .loc 1 0), (2, .loc 0 0), (1, .int .i64 n)], [(2, .cells [.int .i64 s, .int .i64 a, .int .i64 l] 23), (1, .cells [.int .i64 0, .int .i64 0, .int .i64 0] 23), (0, .cells [.int .i64 s, .int .i64 a, .int .i64 l] 23)], 3⟩ [(4 != 0) = true] (by kernel_rfl) ⟨bne_iff_ne.2 (by omega), trivial⟩ ?_
          refine endr (by kernel_rfl) ?_
          refine an ?_
          refine xw_true (by kernel_rfl) ?_
          refine xw_seq ?_
          refine reg ?_
          refine runk TT_ok [] 4 0 [6, 5, 28, 27, 26, 23, 22, 21, 20, 19, 18, 17, 9, 8, 7, 16, 15, 14, 10, 13, 12, 11, 4, 2, 1] [2, 1, 0] ⟨[(6, .int .i64 0), (5, .int .u64 0), (28, .agg [.int .i64 s, .int .i64 a, .int .i64 l]), (27, .bool true), (26, .int .i64 4), (23, .bool (decide (0 < (l - a)))), (22, .bool (decide (0 < (l - a)))), (21, .int .i64 (l - a)), (20, .agg [.int .i64 s, .int .i64 a, .int .i64 l]), (19, .bool true), (18, .bool true), (17, .int .i64 4), (9, .int .i64 4), (8, .int .u64 0), (7, .loc 2 0), (16, .int .i64 4), (15, .int .u64 0), (14, .agg [.int .i64 s, .int .i64 a, .int .i64 l]), (10, .tup [.agg [.int .i64 s, .int .i64 a, .int .i64 l], .int .u64 0, .int .i64 4]), (13, .tup [.agg [.int .i64 s, .int .i64 a, .int .i64 l], .int .u64 0, .int .i64 4]), (12, .int .i64 n), (11, .agg [.int .i64 s, .int .i64 a, .int .i64 l]), (4, .loc 1 0), (2, .loc 0 0), (1, .int .i64 n)], [(2, .cells [.int .i64 s, .int .i64 a, .int .i64 l] 23), (1, .cells [.int .i64 s, .int .i64 a, .int .i64 l] 23), (0, .cells [.int .i64 s, .int .i64 a, .int .i64 l] 23)], 3⟩ [True, True] (by kernel_rfl) ⟨trivial, trivial, trivial⟩ ?_
          refine endr (by kernel_rfl) ?_
          refine an ?_
          refine xw_ret ?_
          refine an_ret ?_
          refine j0_ret ?_
          exact bk_ret (.tup [.agg [.int .i64 s, .int .i64 a, .int .i64 l], .int .u64 0, .int .i64 0]) (.tup [.agg [.int .i64 s, .int .i64 a, .int .i64 l], .int .u64 0, .int .i64 0]) (.tup [.agg [.int .i64 s, .int .i64 a, .int .i64 l], .int .u64 0, .int .i64 0]) (by kernel_rfl) (by kernel_rfl) (wkd [(s : Int) = s, (a : Int) = a, (l : Int) = l, (0 : Int) = 0, (0 : Int) = 0] (by kernel_rfl) ⟨rfl, rfl, rfl, rfl, rfl, trivial⟩) (Or.inr <| Or.inr <| ⟨(by omega), rfl⟩)
      · skip
        refine pcall1 (args := [.agg [.int .i64 s, .int .i64 a, .int .i64 l], .int .i64 n]) (args' := [.agg [.int .i64 s, .int .i64 a, .int .i64 l], .int .i64 n]) (d := (some 13)) (sv := .tup [.agg [.int .i64 s, .int .i64 a, .int .i64 l], .int .u64 0, .int .i64 1]) (by kernel_rfl) (take_3 s a l n (by omega)) [(s : Int) = s, (a : Int) = a, (l : Int) = l, (n : Int) = n] (by kernel_rfl) ⟨rfl, rfl, rfl, rfl, trivial⟩ (by kernel_rfl) ?_
        refine runk TT_ok [] 8 3 [9, 8, 7, 16, 15, 14, 10, 13, 12, 11, 6, 5, 4, 2, 1] [2, 1, 0] ⟨[(9, .int .i64 1), (8, .int .u64 0), (7, .loc 2 0), (16, .int .i64 1), (15, .int .u64 0), (14, .agg [.int .i64 s, .int .i64 a, .int .i64 l]), (10, .tup [.agg [.int .i64 s, .int .i64 a, .int .i64 l], .int .u64 0, .int .i64 1]), (13, .tup [.agg [.int .i64 s, .int .i64 a, .int .i64 l], .int .u64 0, .int .i64 1]), (12, .int .i64 n), (11, .agg [.int .i64 s, .int .i64 a, .int .i64 l]), (6, .int .i64 0), (5, .int .u64 0), (4, .loc 1 0), (2, .loc 0 0), (1, .int .i64 n)], [(2, .cells [.int .i64 s, .int .i64 a, .int .i64 l] 23), (1, .cells [.int .i64 0, .int .i64 0, .int .i64 0] 23), (0, .cells [.int .i64 s, .int .i64 a, .int .i64 l] 23)], 3⟩ [True] (by kernel_rfl) ⟨trivial, trivial⟩ ?_
        refine endr (by kernel_rfl) ?_
        refine an ?_
        refine xw_seq ?_
        refine xw_seq ?_
        refine reg ?_
        refine runk TT_ok [(1, .bool false)] 7 0 [23, 22, 21, 20, 19, 18, 17, 9, 8, 7, 16, 15, 14, 10, 13, 12, 11, 6, 5, 4, 2, 1] [2, 1, 0] ⟨[(23, .bool false), (22, .tup []), (21, .tup []), (20, .tup []), (19, .bool false), (18, .bool false), (17, .int .i64 1), (9, .int .i64 1), (8, .int .u64 0), (7, .loc 2 0), (16, .int .i64 1), (15, .int .u64 0), (14, .agg [.int .i64 s, .int .i64 a, .int .i64 l]), (10, .tup [.agg [.int .i64 s, .int .i64 a, .int .i64 l], .int .u64 0, .int .i64 1]), (13, .tup [.agg [.int .i64 s, .int .i64 a, .int .i64 l], .int .u64 0, .int .i64 1]), (12, .int .i64 n), (11, .agg [.int .i64 s, .int .i64 a, .int .i64 l]), (6, .int .i64 0), (5, .int .u64 0), (4, .loc 1 0), (2, .loc 0 0), (1, .int .i64 n)], [(2, .cells [.int .i64 s, .int .i64 a, .int .i64 l] 23), (1, .cells [.int .i64 0, .int .i64 0, .int .i64 0] 23), (0, .cells [.int .i64 s, .int .i64 a, .int .i64 l] 23)], 3⟩ [(1 == 4) = false, True] (by kernel_rfl) ⟨beq_eq_false_iff_ne.2 (by omega), trivial, trivial⟩ ?_
        refine endr (by kernel_rfl) ?_
        refine an ?_
        refine xw_false (by kernel_rfl) ?_
        refine xw_skip ?_
        refine an ?_
        refine xw_seq ?_
        refine xw_seq ?_
        refine reg ?_
        refine runk TT_ok [(1, .bool true)] 2 0 [27, 26, 23, 22, 21, 20, 19, 18, 17, 9, 8, 7, 16, 15, 14, 10, 13, 12, 11, 6, 5, 4, 2, 1] [2, 1, 0] ⟨[(27, .bool true), (26, .int .i64 1), (23, .bool false), (22, .tup []), (21, .tup []), (20, .tup []), (19, .bool false), (18, .bool false), (17, .int .i64 1), (9, .int .i64 1), (8, .int .u64 0), (7, .loc 2 0), (16, .int .i64 1), (15, .int .u64 0), (14, .agg [.int .i64 s, .int .i64 a, .int .i64 l]), (10, .tup [.agg [.int .i64 s, .int .i64 a, .int .i64 l], .int .u64 0, .int .i64 1]), (13, .tup [.agg [.int .i64 s, .int .i64 a, .int .i64 l], .int .u64 0, .int .i64 1]), (12, .int .i64 n), (11, .agg [.int .i64 s, .int .i64 a, .int .i64 l]), (6, .int .i64 0), (5, .int .u64 0), (4, .loc 1 0), (2, .loc 0 0), (1, .int .i64 n)], [(2, .cells [.int .i64 s, .int .i64 a, .int .i64 l] 23), (1, .cells [.int .i64 0, .int .i64 0, .int .i64 0] 23), (0, .cells [.int .i64 s, .int .i64 a, .int .i64 l] 23)], 3⟩ [(1 != 0) = true] (by kernel_rfl) ⟨bne_iff_ne.2 (by omega), trivial⟩ ?_
        refine endr (by kernel_rfl) ?_
        refine an ?_
        refine xw_true (by kernel_rfl) ?_
        refine xw_seq ?_
        refine reg ?_
        refine runk TT_ok [] 4 0 [6, 5, 28, 27, 26, 23, 22, 21, 20, 19, 18, 17, 9, 8, 7, 16, 15, 14, 10, 13, 12, 11, 4, 2, 1] [2, 1, 0] ⟨[(6, .int .i64 0), (5, .int .u64 0), (28, .agg [.int .i64 s, .int .i64 a, .int .i64 l]), (27, .bool true), (26, .int .i64 1), (23, .bool false), (22, .tup []), (21, .tup []), (20, .tup []), (19, .bool false), (18, .bool false), (17, .int .i64 1), (9, .int .i64 1), (8, .int .u64 0), (7, .loc 2 0), (16, .int .i64 1), (15, .int .u64 0), (14, .agg [.int .i64 s, .int .i64 a, .int .i64 l]), (10, .tup [.agg [.int .i64 s, .int .i64 a, .int .i64 l], .int .u64 0, .int .i64 1]), (13, .tup [.agg [.int .i64 s, .int .i64 a, .int .i64 l], .int .u64 0, .int .i64 1]), (12, .int .i64 n), (11, .agg [.int .i64 s, .int .i64 a, .int .i64 l]), (4, .loc 1 0), (2, .loc 0 0), (1, .int .i64 n)], [(2, .cells [.int .i64 s, .int .i64 a, .int .i64 l] 23), (1, .cells [.int .i64 s, .int .i64 a, .int .i64 l] 23), (0, .cells [.int .i64 s, .int .i64 a, .int .i64 l] 23)], 3⟩ [True, True] (by kernel_rfl) ⟨trivial, trivial, trivial⟩ ?_
        refine endr (by kernel_rfl) ?_
        refine an ?_
        refine xw_ret ?_
        refine an_ret ?_
        refine j0_ret ?_
        exact bk_ret (.tup [.agg [.int .i64 s, .int .i64 a, .int .i64 l], .int .u64 0, .int .i64 0]) (.tup [.agg [.int .i64 s, .int .i64 a, .int .i64 l], .int .u64 0, .int .i64 0]) (.tup [.agg [.int .i64 s, .int .i64 a, .int .i64 l], .int .u64 0, .int .i64 0]) (by kernel_rfl) (by kernel_rfl) (wkd [(s : Int) = s, (a : Int) = a, (l : Int) = l, (0 : Int) = 0, (0 : Int) = 0] (by kernel_rfl) ⟨rfl, rfl, rfl, rfl, rfl, trivial⟩) (Or.inr <| Or.inr <| ⟨(by omega), rfl⟩)
  · skip
    rintro ⟨k, h0, h1, h2, h3⟩
    show XW _ _ _ _ _ ⟨[(6, .int .i64 0), (5, .int .u64 0), (4, .loc 1 0), (2, .loc 0 0), (1, .int .i64 k)], [(1, .cells [.int .i64 0, .int .i64 0, .int .i64 0] 23), (0, .cells [.int .i64 s, .int .i64 a, .int .i64 l] 23)], 2⟩
    refine xw_seq ?_
    refine xw_skip ?_
    refine an ?_
    refine xw_seq ?_
    refine reg ?_
    refine runk TT_ok [] 2 0 [12, 11, 6, 5, 4, 2, 1] [1, 0] ⟨[(12, .int .i64 k), (11, .agg [.int .i64 s, .int .i64 a, .int .i64 l]), (6, .int .i64 0), (5, .int .u64 0), (4, .loc 1 0), (2, .loc 0 0), (1, .int .i64 k)], [(1, .cells [.int .i64 0, .int .i64 0, .int .i64 0] 23), (0, .cells [.int .i64 s, .int .i64 a, .int .i64 l] 23)], 2⟩ [True] (by kernel_rfl) ⟨trivial, trivial⟩ ?_
    refine pcall1 (args := [.agg [.int .i64 s, .int .i64 a, .int .i64 l], .int .i64 k]) (args' := [.agg [.int .i64 s, .int .i64 a, .int .i64 l], .int .i64 k]) (d := (some 13)) (sv := .tup [.agg [.int .i64 s, .int .i64 (a + k), .int .i64 l], .int .u64 ((s + 1) * 4294967296 + a), .int .i64 0]) (by kernel_rfl) (take_1 s a l k (by omega) (by omega) (by omega)) [(s : Int) = s, (a : Int) = a, (l : Int) = l, (k : Int) = k] (by kernel_rfl) ⟨rfl, rfl, rfl, rfl, trivial⟩ (by kernel_rfl) ?_
    refine runk TT_ok [] 8 3 [9, 8, 7, 16, 15, 14, 10, 13, 12, 11, 6, 5, 4, 2, 1] [2, 1, 0] ⟨[(9, .int .i64 0), (8, .int .u64 ((s + 1) * 4294967296 + a)), (7, .loc 2 0), (16, .int .i64 0), (15, .int .u64 ((s + 1) * 4294967296 + a)), (14, .agg [.int .i64 s, .int .i64 (a + k), .int .i64 l]), (10, .tup [.agg [.int .i64 s, .int .i64 (a + k), .int .i64 l], .int .u64 ((s + 1) * 4294967296 + a), .int .i64 0]), (13, .tup [.agg [.int .i64 s, .int .i64 (a + k), .int .i64 l], .int .u64 ((s + 1) * 4294967296 + a), .int .i64 0]), (12, .int .i64 k), (11, .agg [.int .i64 s, .int .i64 a, .int .i64 l]), (6, .int .i64 0), (5, .int .u64 0), (4, .loc 1 0), (2, .loc 0 0), (1, .int .i64 k)], [(2, .cells [.int .i64 s, .int .i64 (a + k), .int .i64 l] 23), (1, .cells [.int .i64 0, .int .i64 0, .int .i64 0] 23), (0, .cells [.int .i64 s, .int .i64 a, .int .i64 l] 23)], 3⟩ [True] (by kernel_rfl) ⟨trivial, trivial⟩ ?_
    refine endr (by kernel_rfl) ?_
    refine an ?_
    refine xw_seq ?_
    refine xw_seq ?_
    refine reg ?_
    refine runk TT_ok [(1, .bool false)] 7 0 [23, 22, 21, 20, 19, 18, 17, 9, 8, 7, 16, 15, 14, 10, 13, 12, 11, 6, 5, 4, 2, 1] [2, 1, 0] ⟨[(23, .bool false), (22, .tup []), (21, .tup []), (20, .tup []), (19, .bool false), (18, .bool false), (17, .int .i64 0), (9, .int .i64 0), (8, .int .u64 ((s + 1) * 4294967296 + a)), (7, .loc 2 0), (16, .int .i64 0), (15, .int .u64 ((s + 1) * 4294967296 + a)), (14, .agg [.int .i64 s, .int .i64 (a + k), .int .i64 l]), (10, .tup [.agg [.int .i64 s, .int .i64 (a + k), .int .i64 l], .int .u64 ((s + 1) * 4294967296 + a), .int .i64 0]), (13, .tup [.agg [.int .i64 s, .int .i64 (a + k), .int .i64 l], .int .u64 ((s + 1) * 4294967296 + a), .int .i64 0]), (12, .int .i64 k), (11, .agg [.int .i64 s, .int .i64 a, .int .i64 l]), (6, .int .i64 0), (5, .int .u64 0), (4, .loc 1 0), (2, .loc 0 0), (1, .int .i64 k)], [(2, .cells [.int .i64 s, .int .i64 (a + k), .int .i64 l] 23), (1, .cells [.int .i64 0, .int .i64 0, .int .i64 0] 23), (0, .cells [.int .i64 s, .int .i64 a, .int .i64 l] 23)], 3⟩ [(0 == 4) = false, True] (by kernel_rfl) ⟨beq_eq_false_iff_ne.2 (by omega), trivial, trivial⟩ ?_
    refine endr (by kernel_rfl) ?_
    refine an ?_
    refine xw_false (by kernel_rfl) ?_
    refine xw_skip ?_
    refine an ?_
    refine xw_seq ?_
    refine xw_seq ?_
    refine reg ?_
    refine runk TT_ok [(1, .bool false)] 2 0 [27, 26, 23, 22, 21, 20, 19, 18, 17, 9, 8, 7, 16, 15, 14, 10, 13, 12, 11, 6, 5, 4, 2, 1] [2, 1, 0] ⟨[(27, .bool false), (26, .int .i64 0), (23, .bool false), (22, .tup []), (21, .tup []), (20, .tup []), (19, .bool false), (18, .bool false), (17, .int .i64 0), (9, .int .i64 0), (8, .int .u64 ((s + 1) * 4294967296 + a)), (7, .loc 2 0), (16, .int .i64 0), (15, .int .u64 ((s + 1) * 4294967296 + a)), (14, .agg [.int .i64 s, .int .i64 (a + k), .int .i64 l]), (10, .tup [.agg [.int .i64 s, .int .i64 (a + k), .int .i64 l], .int .u64 ((s + 1) * 4294967296 + a), .int .i64 0]), (13, .tup [.agg [.int .i64 s, .int .i64 (a + k), .int .i64 l], .int .u64 ((s + 1) * 4294967296 + a), .int .i64 0]), (12, .int .i64 k), (11, .agg [.int .i64 s, .int .i64 a, .int .i64 l]), (6, .int .i64 0), (5, .int .u64 0), (4, .loc 1 0), (2, .loc 0 0), (1, .int .i64 k)], [(2, .cells [.int .i64 s, .int .i64 (a + k), .int .i64 l] 23), (1, .cells [.int .i64 0, .int .i64 0, .int .i64 0] 23), (0, .cells [.int .i64 s, .int .i64 a, .int .i64 l] 23)], 3⟩ [(0 != 0) = false] (by kernel_rfl) ⟨bne_eq_false_iff_eq.2 (by omega), trivial⟩ ?_
    refine endr (by kernel_rfl) ?_
    refine an ?_
    refine xw_false (by kernel_rfl) ?_
    refine xw_skip ?_
    refine an ?_
    refine xw_seq ?_
    refine reg ?_
    refine runk TT_ok [] 6 0 [6, 5, 31, 30, 29, 27, 26, 23, 22, 21, 20, 19, 18, 17, 9, 8, 7, 16, 15, 14, 10, 13, 12, 11, 4, 2, 1] [2, 1, 0] ⟨[(6, .int .i64 k), (5, .int .u64 ((s + 1) * 4294967296 + a)), (31, .int .i64 k), (30, .int .u64 ((s + 1) * 4294967296 + a)), (29, .agg [.int .i64 s, .int .i64 (a + k), .int .i64 l]), (27, .bool false), (26, .int .i64 0), (23, .bool false), (22, .tup []), (21, .tup []), (20, .tup []), (19, .bool false), (18, .bool false), (17, .int .i64 0), (9, .int .i64 0), (8, .int .u64 ((s + 1) * 4294967296 + a)), (7, .loc 2 0), (16, .int .i64 0), (15, .int .u64 ((s + 1) * 4294967296 + a)), (14, .agg [.int .i64 s, .int .i64 (a + k), .int .i64 l]), (10, .tup [.agg [.int .i64 s, .int .i64 (a + k), .int .i64 l], .int .u64 ((s + 1) * 4294967296 + a), .int .i64 0]), (13, .tup [.agg [.int .i64 s, .int .i64 (a + k), .int .i64 l], .int .u64 ((s + 1) * 4294967296 + a), .int .i64 0]), (12, .int .i64 k), (11, .agg [.int .i64 s, .int .i64 a, .int .i64 l]), (4, .loc 1 0), (2, .loc 0 0), (1, .int .i64 k)], [(2, .cells [.int .i64 s, .int .i64 (a + k), .int .i64 l] 23), (1, .cells [.int .i64 s, .int .i64 (a + k), .int .i64 l] 23), (0, .cells [.int .i64 s, .int .i64 a, .int .i64 l] 23)], 3⟩ [True, True] (by kernel_rfl) ⟨trivial, trivial, trivial⟩ ?_
    refine endr (by kernel_rfl) ?_
    refine an ?_
    refine xw_ret ?_
    refine j1_ret ?_
    exact bk_ret (.tup [.agg [.int .i64 s, .int .i64 (a + k), .int .i64 l], .int .u64 ((s + 1) * 4294967296 + a), .int .i64 k]) (.tup [.agg [.int .i64 s, .int .i64 (a + k), .int .i64 l], .int .u64 ((s + 1) * 4294967296 + a), .int .i64 k]) (.tup [.agg [.int .i64 s, .int .i64 l, .int .i64 l], .int .u64 ((s + 1) * 4294967296 + a), .int .i64 (l - a)]) (by kernel_rfl) (by kernel_rfl) (wkd [(s : Int) = s, ((a + k) : Int) = l, (l : Int) = l, (((s + 1) * 4294967296 + a) : Int) = ((s + 1) * 4294967296 + a), (k : Int) = (l - a)] (by kernel_rfl) ⟨rfl, (by first | omega | grind), rfl, rfl, (by first | omega | grind), trivial⟩) (Or.inr <| Or.inl <| ⟨(by omega), (by omega), (by omega), rfl⟩)

theorem most_1 (s : Int) (a : Int) (l : Int) (n : Int) (hp0 : (s = 0 ∨ s = 1) ∧ 0 ≤ a ∧ a ≤ l ∧ l ≤ 4096) (hp1 : 1 ≤ n) (hp2 : n ≤ l - a) : Pub Try.prog 21 [.agg [.int .i64 s, .int .i64 a, .int .i64 l], .int .i64 n] (fun t => t = .tup [.agg [.int .i64 s, .int .i64 (a + n), .int .i64 l], .int .u64 ((s + 1) * 4294967296 + a), .int .i64 n]) := by
  refine (most s a l n ).mono ?_
  rintro _ (⟨g0, g1, g2, rfl⟩ | ⟨g0, g1, g2, rfl⟩ | ⟨g0, rfl⟩)
  · rfl
  · exfalso; first | omega | grind
  · exfalso; first | omega | grind

theorem most_2 (s : Int) (a : Int) (l : Int) (n : Int) (hp0 : (s = 0 ∨ s = 1) ∧ 0 ≤ a ∧ a ≤ l ∧ l ≤ 4096) (hp1 : l - a < n) (hp2 : 0 < l - a) : Pub Try.prog 21 [.agg [.int .i64 s, .int .i64 a, .int .i64 l], .int .i64 n] (fun t => t = .tup [.agg [.int .i64 s, .int .i64 l, .int .i64 l], .int .u64 ((s + 1) * 4294967296 + a), .int .i64 (l - a)]) := by
  refine (most s a l n ).mono ?_
  rintro _ (⟨g0, g1, g2, rfl⟩ | ⟨g0, g1, g2, rfl⟩ | ⟨g0, rfl⟩)
  · exfalso; first | omega | grind
  · rfl
  · exfalso; first | omega | grind

theorem most_3 (s : Int) (a : Int) (l : Int) (n : Int) (hp0 : ¬ (((s = 0 ∨ s = 1) ∧ 0 ≤ a ∧ a ≤ l ∧ l ≤ 4096) ∧ 1 ≤ n ∧ 0 < l - a)) : Pub Try.prog 21 [.agg [.int .i64 s, .int .i64 a, .int .i64 l], .int .i64 n] (fun t => t = .tup [.agg [.int .i64 s, .int .i64 a, .int .i64 l], .int .u64 0, .int .i64 0]) := by
  refine (most s a l n ).mono ?_
  rintro _ (⟨g0, g1, g2, rfl⟩ | ⟨g0, g1, g2, rfl⟩ | ⟨g0, rfl⟩)
  · exfalso; first | omega | grind
  · exfalso; first | omega | grind
  · rfl

theorem shown7  : Pub Try.prog 15 [] (fun t => t = .bool true) := by
  refine pub_of TT_ok Try.func15 rfl (by decide) (Nat.le_of_ble_eq_true (by kernel_rfl)) (by kernel_rfl) ?_
  refine xw_seq ?_
  refine reg ?_
  refine runk TT_ok [] 1 0 [0] [] ⟨[(0, .bool false)], [], 0⟩ [] (by kernel_rfl) trivial ?_
  refine endr (by kernel_rfl) ?_
  refine an ?_
  refine xw_seq ?_
  refine reg ?_
  refine pcall1 (args := [.int .i64 1, .int .i64 10]) (args' := [.int .i64 1, .int .i64 10]) (d := (some 8)) (sv := .agg [.int .i64 1, .int .i64 0, .int .i64 (max 10 0)]) (by kernel_rfl) (bnew_1 1 10 (by omega)) [(1 : Int) = 1, (10 : Int) = 10] (by kernel_rfl) ⟨rfl, rfl, trivial⟩ (by kernel_rfl) ?_
  refine pcall1 (args := [.agg [.int .i64 1, .int .i64 0, .int .i64 (max 10 0)], .int .i64 4]) (args' := [.agg [.int .i64 1, .int .i64 0, .int .i64 (max 10 0)], .int .i64 4]) (d := (some 9)) (sv := .tup [.agg [.int .i64 1, .int .i64 (0 + 4), .int .i64 (max 10 0)], .int .u64 ((1 + 1) * 4294967296 + 0), .int .i64 0]) (by kernel_rfl) (take_1 1 0 (max 10 0) 4 (by omega) (by omega) (by omega)) [(1 : Int) = 1, (0 : Int) = 0, ((max 10 0) : Int) = (max 10 0), (4 : Int) = 4] (by kernel_rfl) ⟨rfl, rfl, rfl, rfl, trivial⟩ (by kernel_rfl) ?_
  refine runk TT_ok [] 8 2 [3, 2, 1, 0] [0] ⟨[(3, .int .i64 0), (2, .int .u64 ((1 + 1) * 4294967296 + 0)), (1, .loc 0 0), (0, .bool false)], [(0, .cells [.int .i64 1, .int .i64 (0 + 4), .int .i64 (max 10 0)] 23)], 1⟩ [True] (by kernel_rfl) ⟨trivial, trivial⟩ ?_
  refine endr (by kernel_rfl) ?_
  refine an ?_
  refine xw_seq ?_
  refine reg ?_
  refine runk TT_ok [] 1 0 [14, 3, 2, 1, 0] [0] ⟨[(14, .agg [.int .i64 1, .int .i64 (0 + 4), .int .i64 (max 10 0)]), (3, .int .i64 0), (2, .int .u64 ((1 + 1) * 4294967296 + 0)), (1, .loc 0 0), (0, .bool false)], [(0, .cells [.int .i64 1, .int .i64 (0 + 4), .int .i64 (max 10 0)] 23)], 1⟩ [True] (by kernel_rfl) ⟨trivial, trivial⟩ ?_
  refine pcall1 (args := [.agg [.int .i64 1, .int .i64 (0 + 4), .int .i64 (max 10 0)], .int .i64 7]) (args' := [.agg [.int .i64 1, .int .i64 (0 + 4), .int .i64 (max 10 0)], .int .i64 7]) (d := (some 15)) (sv := .tup [.agg [.int .i64 1, .int .i64 (0 + 4), .int .i64 (max 10 0)], .int .u64 0, .int .i64 4]) (by kernel_rfl) (take_2 1 (0 + 4) (max 10 0) 7 (by omega) (by omega) (by omega)) [(1 : Int) = 1, ((0 + 4) : Int) = (0 + 4), ((max 10 0) : Int) = (max 10 0), (7 : Int) = 7] (by kernel_rfl) ⟨rfl, rfl, rfl, rfl, trivial⟩ (by kernel_rfl) ?_
  refine runk TT_ok [] 8 2 [6, 3, 2, 1, 0] [0] ⟨[(6, .int .i64 4), (3, .int .i64 0), (2, .int .u64 ((1 + 1) * 4294967296 + 0)), (1, .loc 0 0), (0, .bool false)], [(0, .cells [.int .i64 1, .int .i64 (0 + 4), .int .i64 (max 10 0)] 23)], 2⟩ [True] (by kernel_rfl) ⟨trivial, trivial⟩ ?_
  refine endr (by kernel_rfl) ?_
  refine an ?_
  refine xw_seq ?_
  refine reg ?_
  refine runk TT_ok [(1, .bool true), (4, .bool true), (9, .bool true), (13, .bool true)] 16 0 [0] [] ⟨[(0, .bool true)], [], 2⟩ [(0 == 0) = true, (((1 + 1) * 4294967296 + 0) == 8589934592) = true, True, True, ((0 + 4) == 4) = true, True, (4 == 4) = true, True] (by kernel_rfl) ⟨beq_iff_eq.2 (by omega), beq_iff_eq.2 (by omega), trivial, trivial, beq_iff_eq.2 (by omega), trivial, beq_iff_eq.2 (by omega), trivial, trivial⟩ ?_
  refine endr (by kernel_rfl) ?_
  refine an ?_
  refine xw_ret ?_
  exact bk_ret (.bool true) (.bool true) (.bool true) (by kernel_rfl) (by kernel_rfl) (wkd [true = true] (by kernel_rfl) ⟨rfl, trivial⟩) rfl

end Go.Proofs.Ytiilcckpoibhhaa.X
