/- Contracts of Go functions: what each returns, for every input that its premises name; no memory of the caller is touched. Printed by a program. -/
import Derived.Test.YtkiaoafmlekndaaXb5
import Derived.Test.YtkiaoafmlekndaaXq3
namespace Go.Proofs.Ytkiaoafmlekndaa.X
open Go Go.RowKit
set_option linter.unusedVariables false      -- a premise may serve only to tell which way is taken
set_option linter.unusedSimpArgs false
theorem rright (s : Int) (a : Int) (l : Int) : Pub Try.prog 44 [.agg [.int .i64 s, .int .i64 a, .int .i64 l]] (fun rv => (((s = 0 ∨ s = 1) ∧ 0 ≤ a ∧ a ≤ l ∧ l ≤ 4096) ∧ rv = .bool true) ∨ ((¬ ((s = 0 ∨ s = 1) ∧ 0 ≤ a ∧ a ≤ l ∧ l ≤ 4096)) ∧ rv = .bool false)) := by
 refine pub_of TT_ok Try.func44 rfl (by decide) (Nat.le_of_ble_eq_true (by kernel_rfl)) (by kernel_rfl) ?_
 refine rg [] 2 ⟨[(2, .f), (1, .p 0)], [(0, .cells [.i s, .i a, .i l] 27)], 1⟩ [] trivial ?_
 refine xw_seq ?_
 refine reg ?_
 refine rk [(2, .bool (decide (0 ≤ s)))] 4 0 ⟨[(6, .bool (decide (0 ≤ s))), (2, .f), (1, .p 0)], [(0, .cells [.i s, .i a, .i l] 27)], 1⟩ [True, (decide (0 ≤ s)) = (decide (0 ≤ s))] ⟨trivial, rfl, trivial⟩ ?_
 refine splitr 6 (x := (decide (0 ≤ s))) (by kernel_rfl) (fun h0 => ?_) (fun h0 => ?_)
 ·
  replace h0 : 0 ≤ s := of_decide_eq_true h0
  refine rk [(6, .bool (decide (s ≤ 1)))] 5 4 ⟨[(11, .bool (decide (s ≤ 1))), (2, .f), (1, .p 0)], [(0, .cells [.i s, .i a, .i l] 27)], 1⟩ [True, (decide (s ≤ 1)) = (decide (s ≤ 1)), True] ⟨trivial, rfl, trivial, trivial⟩ ?_
  refine splitr 11 (x := (decide (s ≤ 1))) (by kernel_rfl) (fun h1 => ?_) (fun h1 => ?_)
  ·
   replace h1 : s ≤ 1 := of_decide_eq_true h1
   refine rk [(11, .bool (decide (0 ≤ a)))] 5 9 ⟨[(16, .bool (decide (0 ≤ a))), (2, .f), (1, .p 0)], [(0, .cells [.i s, .i a, .i l] 27)], 1⟩ [True, (decide (0 ≤ a)) = (decide (0 ≤ a)), True] ⟨trivial, rfl, trivial, trivial⟩ ?_
   refine splitr 16 (x := (decide (0 ≤ a))) (by kernel_rfl) (fun h2 => ?_) (fun h2 => ?_)
   ·
    replace h2 : 0 ≤ a := of_decide_eq_true h2
    refine rk [(18, .bool (decide (a ≤ l)))] 7 14 ⟨[(23, .bool (decide (a ≤ l))), (2, .f), (1, .p 0)], [(0, .cells [.i s, .i a, .i l] 27)], 1⟩ [True, True, (decide (a ≤ l)) = (decide (a ≤ l)), True] ⟨trivial, trivial, rfl, trivial, trivial⟩ ?_
    refine splitr 23 (x := (decide (a ≤ l))) (by kernel_rfl) (fun h3 => ?_) (fun h3 => ?_)
    ·
     replace h3 : a ≤ l := of_decide_eq_true h3
     refine rk [(23, .bool (decide (l ≤ 4096)))] 5 21 ⟨[(2, .bool (decide (l ≤ 4096)))], [], 1⟩ [True, (decide (l ≤ 4096)) = (decide (l ≤ 4096)), True] ⟨trivial, rfl, trivial, trivial⟩ ?_
     refine en ?_
     refine an ?_
     refine xw_ret ?_
     by_cases h4 : l ≤ 4096
     ·
      exact bk_ret (.bool (decide (l ≤ 4096))) (.bool (decide (l ≤ 4096))) (.t) (by kernel_rfl) (by kernel_rfl) (wkd [(decide (l ≤ 4096)) = true] (by kernel_rfl) ⟨(by first | exact decide_eq_true (by omega) | exact decide_eq_false (by omega) | (simp; done) | (simp; omega) | simp_all | grind), trivial⟩) (Or.inl <| ⟨(by omega), rfl⟩)
     ·
      exact bk_ret (.bool (decide (l ≤ 4096))) (.bool (decide (l ≤ 4096))) (.f) (by kernel_rfl) (by kernel_rfl) (wkd [(decide (l ≤ 4096)) = false] (by kernel_rfl) ⟨(by first | exact decide_eq_true (by omega) | exact decide_eq_false (by omega) | (simp; done) | (simp; omega) | simp_all | grind), trivial⟩) (Or.inr <| ⟨(by omega), rfl⟩)
    ·
     replace h3 : ¬ (a ≤ l) := of_decide_eq_false h3
     refine rk [] 5 21 ⟨[(2, .f)], [], 1⟩ [True] ⟨trivial, trivial⟩ ?_
     refine en ?_
     refine an ?_
     refine xw_ret ?_
     exact bs (.f) (Or.inr <| ⟨(by omega), rfl⟩)
   ·
    replace h2 : ¬ (0 ≤ a) := of_decide_eq_false h2
    refine rk [] 12 14 ⟨[(2, .f)], [], 1⟩ [True, True] ⟨trivial, trivial, trivial⟩ ?_
    refine en ?_
    refine an ?_
    refine xw_ret ?_
    exact bs (.f) (Or.inr <| ⟨(by omega), rfl⟩)
  ·
   replace h1 : ¬ (s ≤ 1) := of_decide_eq_false h1
   refine rk [] 17 9 ⟨[(2, .f)], [], 1⟩ [True, True, True] ⟨trivial, trivial, trivial, trivial⟩ ?_
   refine en ?_
   refine an ?_
   refine xw_ret ?_
   exact bs (.f) (Or.inr <| ⟨(by omega), rfl⟩)
 ·
  replace h0 : ¬ (0 ≤ s) := of_decide_eq_false h0
  refine rk [] 22 4 ⟨[(2, .f)], [], 1⟩ [True, True, True, True] ⟨trivial, trivial, trivial, trivial, trivial⟩ ?_
  refine en ?_
  refine an ?_
  refine xw_ret ?_
  exact bs (.f) (Or.inr <| ⟨(by omega), rfl⟩)

theorem rright_1 (s : Int) (a : Int) (l : Int) (hp0 : (s = 0 ∨ s = 1) ∧ 0 ≤ a ∧ a ≤ l ∧ l ≤ 4096) : Pub Try.prog 44 [.agg [.int .i64 s, .int .i64 a, .int .i64 l]] (fun rv => rv = .bool true) := by
  refine (rright s a l ).mono ?_
  rintro _ (⟨g0, rfl⟩ | ⟨g0, rfl⟩)
  · rfl
  · exfalso; first | omega | grind

theorem rright_2 (s : Int) (a : Int) (l : Int) (hp0 : ¬ ((s = 0 ∨ s = 1) ∧ 0 ≤ a ∧ a ≤ l ∧ l ≤ 4096)) : Pub Try.prog 44 [.agg [.int .i64 s, .int .i64 a, .int .i64 l]] (fun rv => rv = .bool false) := by
  refine (rright s a l ).mono ?_
  rintro _ (⟨g0, rfl⟩ | ⟨g0, rfl⟩)
  · exfalso; first | omega | grind
  · rfl

theorem rtake (s : Int) (a : Int) (l : Int) (n : Int) : Pub Try.prog 30 [.agg [.int .i64 s, .int .i64 a, .int .i64 l], .int .i64 n] (fun rv => (((s = 0 ∨ s = 1) ∧ 0 ≤ a ∧ a ≤ l ∧ l ≤ 4096) ∧ (1 ≤ n) ∧ (n ≤ l - a) ∧ rv = .tup [.agg [.int .i64 s, .int .i64 (a + n), .int .i64 l], .int .u64 ((s + 1) * 4294967296 + a), .int .i64 0]) ∨ (((s = 0 ∨ s = 1) ∧ 0 ≤ a ∧ a ≤ l ∧ l ≤ 4096) ∧ (1 ≤ n) ∧ (l - a < n) ∧ rv = .tup [.agg [.int .i64 s, .int .i64 a, .int .i64 l], .int .u64 0, .int .i64 4]) ∨ ((¬ (((s = 0 ∨ s = 1) ∧ 0 ≤ a ∧ a ≤ l ∧ l ≤ 4096) ∧ 1 ≤ n)) ∧ rv = .tup [.agg [.int .i64 s, .int .i64 a, .int .i64 l], .int .u64 0, .int .i64 1])) := by
 refine pub_of TT_ok Try.func30 rfl (by decide) (Nat.le_of_ble_eq_true (by kernel_rfl)) (by kernel_rfl) ?_
 refine rg [] 4 ⟨[(6, .i 0), (5, .u 0), (4, .p 1), (2, .p 0), (1, .i n)], [(1, .cells [.i 0, .i 0, .i 0] 27), (0, .cells [.i s, .i a, .i l] 27)], 2⟩ [] trivial ?_
 refine xw_seq ?_
 refine reg ?_
 refine rk [] 1 0 ⟨[(8, .agg [.i s, .i a, .i l]), (6, .i 0), (5, .u 0), (4, .p 1), (2, .p 0), (1, .i n)], [(1, .cells [.i 0, .i 0, .i 0] 27), (0, .cells [.i s, .i a, .i l] 27)], 2⟩ [True] ⟨trivial, trivial⟩ ?_
 by_cases h0 : (s = 0 ∨ s = 1) ∧ 0 ≤ a ∧ a ≤ l ∧ l ≤ 4096
 ·
  refine pc (rright_1 s a l ‹_›) ?_
  refine rk [] 1 2 ⟨[(7, .t), (6, .i 0), (5, .u 0), (4, .p 1), (2, .p 0), (1, .i n)], [(1, .cells [.i 0, .i 0, .i 0] 27), (0, .cells [.i s, .i a, .i l] 27)], 2⟩ [] trivial ?_
  refine en ?_
  refine an ?_
  refine xw_seq ?_
  refine rg [(4, .bool (decide (n < 1)))] 6 ⟨[(15, .bool (decide (n < 1))), (6, .i 0), (5, .u 0), (4, .p 1), (2, .p 0), (1, .i n)], [(1, .cells [.i 0, .i 0, .i 0] 27), (0, .cells [.i s, .i a, .i l] 27)], 2⟩ [(decide (n < 1)) = (decide (n < 1)), True] ⟨rfl, trivial, trivial⟩ ?_
  refine xw_cond (b := (decide (n < 1))) (by kernel_rfl) (fun h1 => ?_) (fun h1 => ?_)
  ·
   replace h1 : n < 1 := of_decide_eq_true h1
   refine rg [] 4 ⟨[(6, .i 1), (5, .u 0), (4, .p 1), (2, .p 0), (1, .i n)], [(1, .cells [.i s, .i a, .i l] 27), (0, .cells [.i s, .i a, .i l] 27)], 2⟩ [True, True] ⟨trivial, trivial, trivial⟩ ?_
   refine xw_ret ?_
   refine an_ret ?_
   exact bs (.tup [.agg [.i s, .i a, .i l], .u 0, .i 1]) (Or.inr <| Or.inr <| ⟨(by omega), rfl⟩)
  ·
   replace h1 : ¬ (n < 1) := of_decide_eq_false h1
   refine xw_skip ?_
   refine an ?_
   refine xw_seq ?_
   refine rg [(5, .i (l - a)), (6, .bool (decide ((l - a) < n)))] 7 ⟨[(23, .bool (decide ((l - a) < n))), (6, .i 0), (5, .u 0), (4, .p 1), (2, .p 0), (1, .i n)], [(1, .cells [.i 0, .i 0, .i 0] 27), (0, .cells [.i s, .i a, .i l] 27)], 2⟩ [True, True, IntKind.i64.wrap (l - a) = (l - a), (decide ((l - a) < n)) = (decide ((l - a) < n))] ⟨trivial, trivial, i64_eq (by omega) (by omega), rfl, trivial⟩ ?_
   refine xw_cond (b := (decide ((l - a) < n))) (by kernel_rfl) (fun h2 => ?_) (fun h2 => ?_)
   ·
    replace h2 : (l - a) < n := of_decide_eq_true h2
    refine rg [] 4 ⟨[(6, .i 4), (5, .u 0), (4, .p 1), (2, .p 0), (1, .i n)], [(1, .cells [.i s, .i a, .i l] 27), (0, .cells [.i s, .i a, .i l] 27)], 2⟩ [True, True] ⟨trivial, trivial, trivial⟩ ?_
    refine xw_ret ?_
    refine an_ret ?_
    exact bs (.tup [.agg [.i s, .i a, .i l], .u 0, .i 4]) (Or.inr <| Or.inl <| ⟨(by omega), (by omega), (by omega), rfl⟩)
   ·
    replace h2 : ¬ ((l - a) < n) := of_decide_eq_false h2
    refine xw_skip ?_
    refine an ?_
    refine xw_seq ?_
    refine sreg hmix [([(1, .cells [.i 0, .i 0, .i 0] 27), (0, .cells [.i s, .i a, .i l] 27)], 2), ([(1, .cells [.i s, .i (a + n), .i l] 27), (0, .cells [.i s, .i a, .i l] 27)], 2)] [14] [(1, [0]), (3, [2]), (5, [2, 3, 4]), (7, [6]), (8, [0, 1, 2, 3, 4, 5, 6, 7]), (10, [9]), (12, [11]), (13, [9, 10, 11, 12]), (14, [0, 1, 2, 3, 4, 5, 6, 7, 8, 9, 10, 11, 12, 13]), (15, [0, 1, 2, 3, 4, 5, 6, 7, 8, 9, 10, 11, 12, 13, 14]), (16, [0, 1, 2, 3, 4, 5, 6, 7, 8, 9, 10, 11, 12, 13, 14, 15])] (by kernel_rfl) (by kernel_rfl) (by kernel_rfl) (by kernel_rfl) (by kernel_rfl) ?_
    refine sr [(5, .i (a + n))] 13 0 [(37, .i a), (36, .loc 0 1), (35, .i s), (34, .p 0), (33, .agg [.i s, .i (a + n), .i l]), (32, .i l), (31, .loc 0 2), (30, .i (a + n)), (29, .i n), (28, .i a), (27, .loc 0 1), (26, .i s), (25, .p 0), (23, .bool (decide ((l - a) < n))), (6, .i 0), (5, .u 0), (4, .p 1), (2, .p 0), (1, .i n)] [True, True, True, True, True, IntKind.i64.wrap (a + n) = (a + n), True, True, True, True, True, True, True] ⟨trivial, trivial, trivial, trivial, trivial, i64_eq (by omega) (by omega), trivial, trivial, trivial, trivial, trivial, trivial, trivial, trivial⟩ ?_
    refine sc (raddr_1 s a (by omega)) ?_
    refine sr [] 3 14 [(6, .i 0), (5, .u ((s + 1) * 4294967296 + a)), (38, .u ((s + 1) * 4294967296 + a)), (37, .i a), (36, .loc 0 1), (35, .i s), (34, .p 0), (33, .agg [.i s, .i (a + n), .i l]), (32, .i l), (31, .loc 0 2), (30, .i (a + n)), (29, .i n), (28, .i a), (27, .loc 0 1), (26, .i s), (25, .p 0), (23, .bool (decide ((l - a) < n))), (6, .i 0), (5, .u 0), (4, .p 1), (2, .p 0), (1, .i n)] [True, ([(1, .cells [.i s, .i (a + n), .i l] 27), (0, .cells [.i s, .i a, .i l] 27)] : Mem) = [(1, .cells [.i s, .i (a + n), .i l] 27), (0, .cells [.i s, .i a, .i l] 27)], (2 : Nat) = 2, True, True] ⟨trivial, rfl, rfl, trivial, trivial, trivial⟩ ?_
    refine sen ?_
    refine an ?_
    refine xw_ret ?_
    exact bs (.tup [.agg [.i s, .i (a + n), .i l], .u ((s + 1) * 4294967296 + a), .i 0]) (Or.inl <| ⟨(by omega), (by omega), (by omega), rfl⟩)
 ·
  refine pc (rright_2 s a l ‹_›) ?_
  refine rk [] 1 2 ⟨[(7, .f), (6, .i 0), (5, .u 0), (4, .p 1), (2, .p 0), (1, .i n)], [(1, .cells [.i 0, .i 0, .i 0] 27), (0, .cells [.i s, .i a, .i l] 27)], 2⟩ [] trivial ?_
  refine en ?_
  refine an ?_
  refine xw_seq ?_
  refine rg [] 6 ⟨[(15, .t), (6, .i 0), (5, .u 0), (4, .p 1), (2, .p 0), (1, .i n)], [(1, .cells [.i 0, .i 0, .i 0] 27), (0, .cells [.i s, .i a, .i l] 27)], 2⟩ [True] ⟨trivial, trivial⟩ ?_
  refine ct ?_
  refine rg [] 4 ⟨[(6, .i 1), (5, .u 0), (4, .p 1), (2, .p 0), (1, .i n)], [(1, .cells [.i s, .i a, .i l] 27), (0, .cells [.i s, .i a, .i l] 27)], 2⟩ [True, True] ⟨trivial, trivial, trivial⟩ ?_
  refine xw_ret ?_
  refine an_ret ?_
  exact bs (.tup [.agg [.i s, .i a, .i l], .u 0, .i 1]) (Or.inr <| Or.inr <| ⟨(by omega), rfl⟩)

theorem rtake_1 (s : Int) (a : Int) (l : Int) (n : Int) (hp0 : (s = 0 ∨ s = 1) ∧ 0 ≤ a ∧ a ≤ l ∧ l ≤ 4096) (hp1 : 1 ≤ n) (hp2 : n ≤ l - a) : Pub Try.prog 30 [.agg [.int .i64 s, .int .i64 a, .int .i64 l], .int .i64 n] (fun rv => rv = .tup [.agg [.int .i64 s, .int .i64 (a + n), .int .i64 l], .int .u64 ((s + 1) * 4294967296 + a), .int .i64 0]) := by
  refine (rtake s a l n ).mono ?_
  rintro _ (⟨g0, g1, g2, rfl⟩ | ⟨g0, g1, g2, rfl⟩ | ⟨g0, rfl⟩)
  · rfl
  · exfalso; first | omega | grind
  · exfalso; first | omega | grind

theorem rtake_2 (s : Int) (a : Int) (l : Int) (n : Int) (hp0 : (s = 0 ∨ s = 1) ∧ 0 ≤ a ∧ a ≤ l ∧ l ≤ 4096) (hp1 : 1 ≤ n) (hp2 : l - a < n) : Pub Try.prog 30 [.agg [.int .i64 s, .int .i64 a, .int .i64 l], .int .i64 n] (fun rv => rv = .tup [.agg [.int .i64 s, .int .i64 a, .int .i64 l], .int .u64 0, .int .i64 4]) := by
  refine (rtake s a l n ).mono ?_
  rintro _ (⟨g0, g1, g2, rfl⟩ | ⟨g0, g1, g2, rfl⟩ | ⟨g0, rfl⟩)
  · exfalso; first | omega | grind
  · rfl
  · exfalso; first | omega | grind

theorem rtake_3 (s : Int) (a : Int) (l : Int) (n : Int) (hp0 : ¬ (((s = 0 ∨ s = 1) ∧ 0 ≤ a ∧ a ≤ l ∧ l ≤ 4096) ∧ 1 ≤ n)) : Pub Try.prog 30 [.agg [.int .i64 s, .int .i64 a, .int .i64 l], .int .i64 n] (fun rv => rv = .tup [.agg [.int .i64 s, .int .i64 a, .int .i64 l], .int .u64 0, .int .i64 1]) := by
  refine (rtake s a l n ).mono ?_
  rintro _ (⟨g0, g1, g2, rfl⟩ | ⟨g0, g1, g2, rfl⟩ | ⟨g0, rfl⟩)
  · exfalso; first | omega | grind
  · exfalso; first | omega | grind
  · rfl

end Go.Proofs.Ytkiaoafmlekndaa.X
