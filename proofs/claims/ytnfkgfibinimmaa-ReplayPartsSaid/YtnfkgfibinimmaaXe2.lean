/- Contracts of Go functions: what each returns, for every input that its premises name; no memory of the caller is touched. Printed by a program. -/
import Derived.Test.YtnfkgfibinimmaaXe1
namespace Go.Proofs.Ytnfkgfibinimmaa.X
open Go Go.RowKit
set_option linter.unusedVariables false      -- a premise may serve only to tell which way is taken
set_option linter.unusedSimpArgs false
theorem rbfright (W : Int) (xs ys : List Int) (s b l p q : Int) (hp0 : -9223372036854775808 ≤ W ∧ W ≤ 9223372036854775807) (hp1 : -9223372036854775808 ≤ s ∧ s ≤ 9223372036854775807) (hp2 : -9223372036854775808 ≤ b ∧ b ≤ 9223372036854775807) (hp3 : -9223372036854775808 ≤ l ∧ l ≤ 9223372036854775807) (hp4 : -9223372036854775808 ≤ p ∧ p ≤ 9223372036854775807) (hp5 : -9223372036854775808 ≤ q ∧ q ≤ 9223372036854775807) : Pub Try.prog 9 [.agg (mr W xs ys (r5 s b l p q))] (fun rv => ((16 ≤ W ∧ W ≤ 4096 ∧ (xs.length : Int) = W ∧ (ys.length : Int) = W ∧ (s = 0 ∨ s = 1) ∧ 0 ≤ b ∧ b ≤ l ∧ l ≤ 4096 ∧ l = W ∧ ((p = 0 ∧ q = 0) ∨ (0 ≤ p ∧ p ≤ q ∧ q ≤ b))) ∧ rv = .t) ∨ ((¬ (16 ≤ W ∧ W ≤ 4096 ∧ (xs.length : Int) = W ∧ (ys.length : Int) = W ∧ (s = 0 ∨ s = 1) ∧ 0 ≤ b ∧ b ≤ l ∧ l ≤ 4096 ∧ l = W ∧ ((p = 0 ∧ q = 0) ∨ (0 ≤ p ∧ p ≤ q ∧ q ≤ b)))) ∧ rv = .f)) := by
 refine pub_of TT_ok Try.func9 rfl (by decide) (Nat.le_of_ble_eq_true (by kernel_rfl)) (by kernel_rfl) ?_
 refine rg [] 2 ⟨[(2, .f), (1, .p 0)], [(0, .cells (mr W xs ys (r5 s b l p q)) 31)], 1⟩ [] trivial ?_
 refine xw_seq ?_
 refine reg ?_
 refine rk [] 2 0 ⟨[(6, .agg (mm W xs ys)), (2, .f), (1, .p 0)], [(0, .cells (mr W xs ys (r5 s b l p q)) 31)], 1⟩ [True] ⟨trivial, trivial⟩ ?_
 by_cases h0 : 16 ≤ W ∧ W ≤ 4096 ∧ (xs.length : Int) = W ∧ (ys.length : Int) = W
 ·
  refine pc (rmright_1 W xs ys ‹_› ‹_›) ?_
  refine rk [] 1 3 ⟨[(3, .t), (2, .f), (1, .p 0)], [(0, .cells (mr W xs ys (r5 s b l p q)) 31)], 1⟩ [] trivial ?_
  refine en ?_
  refine an ?_
  refine xw_seq ?_
  refine reg ?_
  refine rk [] 2 0 ⟨[(9, .agg [.i s, .i b, .i l]), (3, .t), (2, .f), (1, .p 0)], [(0, .cells (mr W xs ys (r5 s b l p q)) 31)], 1⟩ [True] ⟨trivial, trivial⟩ ?_
  by_cases h1 : (s = 0 ∨ s = 1) ∧ 0 ≤ b ∧ b ≤ l ∧ l ≤ 4096
  ·
   refine pc (rright_1 s b l ‹_›) ?_
   refine rk [] 1 3 ⟨[(4, .t), (3, .t), (2, .f), (1, .p 0)], [(0, .cells (mr W xs ys (r5 s b l p q)) 31)], 1⟩ [] trivial ?_
   refine en ?_
   refine an ?_
   refine xw_seq ?_
   refine rg [(13, .bool (l != W))] 15 ⟨[(25, .bool (l != W)), (2, .f), (1, .p 0)], [(0, .cells (mr W xs ys (r5 s b l p q)) 31)], 1⟩ [True, True, True, (l != W) = (l != W), True] ⟨trivial, trivial, trivial, rfl, trivial, trivial⟩ ?_
   refine xw_cond (b := (l != W)) (by kernel_rfl) (fun h2 => ?_) (fun h2 => ?_)
   ·
    replace h2 : l ≠ W := bne_iff_ne.1 h2
    refine rg [] 1 ⟨[(2, .f), (1, .p 0)], [(0, .cells (mr W xs ys (r5 s b l p q)) 31)], 1⟩ [] trivial ?_
    refine xw_ret ?_
    refine an_ret ?_
    exact bs (.f) (Or.inr <| ⟨(by omega), rfl⟩)
   ·
    replace h2 : l = W := bne_eq_false_iff_eq.1 h2
    refine xw_skip ?_
    refine an ?_
    refine xw_seq ?_
    refine xw_seq ?_
    refine reg ?_
    refine rk [(3, .bool (p == 0))] 5 0 ⟨[(30, .bool (p == 0)), (2, .f), (1, .p 0)], [(0, .cells (mr W xs ys (r5 s b l p q)) 31)], 1⟩ [True, (p == 0) = (p == 0)] ⟨trivial, rfl, trivial⟩ ?_
    refine splitr 30 (x := (p == 0)) (by kernel_rfl) (fun h3 => ?_) (fun h3 => ?_)
    ·
     replace h3 : p = 0 := eq_of_beq h3
     refine rk [(8, .bool (q == 0))] 5 5 ⟨[(35, .bool (q == 0)), (2, .f), (1, .p 0)], [(0, .cells (mr W xs ys (r5 s b l p q)) 31)], 1⟩ [True, (q == 0) = (q == 0), True] ⟨trivial, rfl, trivial, trivial⟩ ?_
     refine en ?_
     refine an ?_
     refine xw_cond (b := (q == 0)) (by kernel_rfl) (fun h4 => ?_) (fun h4 => ?_)
     ·
      replace h4 : q = 0 := eq_of_beq h4
      refine rg [] 1 ⟨[(2, .t), (1, .p 0)], [(0, .cells (mr W xs ys (r5 s b l p q)) 31)], 1⟩ [] trivial ?_
      refine xw_ret ?_
      refine an_ret ?_
      exact bs (.t) (Or.inl <| ⟨(by omega), rfl⟩)
     ·
      replace h4 : q ≠ 0 := ne_of_beq_false h4
      refine xw_skip ?_
      refine an ?_
      refine xw_seq ?_
      refine reg ?_
      refine rk [(3, .t), (11, .bool (decide (p ≤ q)))] 14 0 ⟨[(49, .bool (decide (p ≤ q))), (2, .f), (1, .p 0)], [(0, .cells (mr W xs ys (r5 s b l p q)) 31)], 1⟩ [True, (decide (0 ≤ p)) = true, True, True, (decide (p ≤ q)) = (decide (p ≤ q)), True] ⟨trivial, decide_eq_true (by omega), trivial, trivial, rfl, trivial, trivial⟩ ?_
      refine splitr 49 (x := (decide (p ≤ q))) (by kernel_rfl) (fun h5 => ?_) (fun h5 => ?_)
      ·
       replace h5 : p ≤ q := of_decide_eq_true h5
       refine rk [(20, .bool (decide (q ≤ b)))] 9 14 ⟨[(2, .bool (decide (q ≤ b)))], [], 1⟩ [True, True, (decide (q ≤ b)) = (decide (q ≤ b)), True] ⟨trivial, trivial, rfl, trivial, trivial⟩ ?_
       refine en ?_
       refine an ?_
       refine xw_ret ?_
       by_cases h6 : q ≤ b
       ·
        exact br (.bool (decide (q ≤ b))) (.t) (wkd [(decide (q ≤ b)) = true] (by kernel_rfl) ⟨(by first | exact decide_eq_true (by omega) | exact decide_eq_false (by omega) | (simp; done) | (simp; omega) | simp_all | grind), trivial⟩) (Or.inl <| ⟨(by omega), rfl⟩)
       ·
        exact br (.bool (decide (q ≤ b))) (.f) (wkd [(decide (q ≤ b)) = false] (by kernel_rfl) ⟨(by first | exact decide_eq_true (by omega) | exact decide_eq_false (by omega) | (simp; done) | (simp; omega) | simp_all | grind), trivial⟩) (Or.inr <| ⟨(by omega), rfl⟩)
      ·
       replace h5 : ¬ (p ≤ q) := of_decide_eq_false h5
       refine rk [] 9 14 ⟨[(2, .f)], [], 1⟩ [True] ⟨trivial, trivial⟩ ?_
       refine en ?_
       refine an ?_
       refine xw_ret ?_
       exact bs (.f) (Or.inr <| ⟨(by omega), rfl⟩)
    ·
     replace h3 : p ≠ 0 := ne_of_beq_false h3
     refine rk [] 5 5 ⟨[(35, .f), (2, .f), (1, .p 0)], [(0, .cells (mr W xs ys (r5 s b l p q)) 31)], 1⟩ [True] ⟨trivial, trivial⟩ ?_
     refine en ?_
     refine an ?_
     refine cf ?_
     refine xw_skip ?_
     refine an ?_
     refine xw_seq ?_
     refine reg ?_
     refine rk [(3, .bool (decide (0 ≤ p)))] 5 0 ⟨[(40, .bool (decide (0 ≤ p))), (2, .f), (1, .p 0)], [(0, .cells (mr W xs ys (r5 s b l p q)) 31)], 1⟩ [True, (decide (0 ≤ p)) = (decide (0 ≤ p))] ⟨trivial, rfl, trivial⟩ ?_
     refine splitr 40 (x := (decide (0 ≤ p))) (by kernel_rfl) (fun h4 => ?_) (fun h4 => ?_)
     ·
      replace h4 : 0 ≤ p := of_decide_eq_true h4
      refine rk [(11, .bool (decide (p ≤ q)))] 9 5 ⟨[(49, .bool (decide (p ≤ q))), (2, .f), (1, .p 0)], [(0, .cells (mr W xs ys (r5 s b l p q)) 31)], 1⟩ [True, True, (decide (p ≤ q)) = (decide (p ≤ q)), True] ⟨trivial, trivial, rfl, trivial, trivial⟩ ?_
      refine splitr 49 (x := (decide (p ≤ q))) (by kernel_rfl) (fun h5 => ?_) (fun h5 => ?_)
      ·
       replace h5 : p ≤ q := of_decide_eq_true h5
       refine rk [(20, .bool (decide (q ≤ b)))] 9 14 ⟨[(2, .bool (decide (q ≤ b)))], [], 1⟩ [True, True, (decide (q ≤ b)) = (decide (q ≤ b)), True] ⟨trivial, trivial, rfl, trivial, trivial⟩ ?_
       refine en ?_
       refine an ?_
       refine xw_ret ?_
       by_cases h6 : q ≤ b
       ·
        exact br (.bool (decide (q ≤ b))) (.t) (wkd [(decide (q ≤ b)) = true] (by kernel_rfl) ⟨(by first | exact decide_eq_true (by omega) | exact decide_eq_false (by omega) | (simp; done) | (simp; omega) | simp_all | grind), trivial⟩) (Or.inl <| ⟨(by omega), rfl⟩)
       ·
        exact br (.bool (decide (q ≤ b))) (.f) (wkd [(decide (q ≤ b)) = false] (by kernel_rfl) ⟨(by first | exact decide_eq_true (by omega) | exact decide_eq_false (by omega) | (simp; done) | (simp; omega) | simp_all | grind), trivial⟩) (Or.inr <| ⟨(by omega), rfl⟩)
      ·
       replace h5 : ¬ (p ≤ q) := of_decide_eq_false h5
       refine rk [] 9 14 ⟨[(2, .f)], [], 1⟩ [True] ⟨trivial, trivial⟩ ?_
       refine en ?_
       refine an ?_
       refine xw_ret ?_
       exact bs (.f) (Or.inr <| ⟨(by omega), rfl⟩)
     ·
      replace h4 : ¬ (0 ≤ p) := of_decide_eq_false h4
      refine rk [] 18 5 ⟨[(2, .f)], [], 1⟩ [True, True] ⟨trivial, trivial, trivial⟩ ?_
      refine en ?_
      refine an ?_
      refine xw_ret ?_
      exact bs (.f) (Or.inr <| ⟨(by omega), rfl⟩)
  ·
   refine pc (rright_2 s b l ‹_›) ?_
   refine rk [] 1 3 ⟨[(4, .f), (3, .t), (2, .f), (1, .p 0)], [(0, .cells (mr W xs ys (r5 s b l p q)) 31)], 1⟩ [] trivial ?_
   refine en ?_
   refine an ?_
   refine xw_seq ?_
   refine rg [] 15 ⟨[(25, .t), (2, .f), (1, .p 0)], [(0, .cells (mr W xs ys (r5 s b l p q)) 31)], 1⟩ [True, True] ⟨trivial, trivial, trivial⟩ ?_
   refine ct ?_
   refine rg [] 1 ⟨[(2, .f), (1, .p 0)], [(0, .cells (mr W xs ys (r5 s b l p q)) 31)], 1⟩ [] trivial ?_
   refine xw_ret ?_
   refine an_ret ?_
   exact bs (.f) (Or.inr <| ⟨(by omega), rfl⟩)
 ·
  refine pc (rmright_2 W xs ys ‹_› ‹_›) ?_
  refine rk [] 1 3 ⟨[(3, .f), (2, .f), (1, .p 0)], [(0, .cells (mr W xs ys (r5 s b l p q)) 31)], 1⟩ [] trivial ?_
  refine en ?_
  refine an ?_
  refine xw_seq ?_
  refine reg ?_
  refine rk [] 2 0 ⟨[(9, .agg [.i s, .i b, .i l]), (3, .f), (2, .f), (1, .p 0)], [(0, .cells (mr W xs ys (r5 s b l p q)) 31)], 1⟩ [True] ⟨trivial, trivial⟩ ?_
  by_cases h1 : (s = 0 ∨ s = 1) ∧ 0 ≤ b ∧ b ≤ l ∧ l ≤ 4096
  ·
   refine pc (rright_1 s b l ‹_›) ?_
   refine rk [] 1 3 ⟨[(4, .t), (3, .f), (2, .f), (1, .p 0)], [(0, .cells (mr W xs ys (r5 s b l p q)) 31)], 1⟩ [] trivial ?_
   refine en ?_
   refine an ?_
   refine xw_seq ?_
   refine rg [] 15 ⟨[(25, .t), (2, .f), (1, .p 0)], [(0, .cells (mr W xs ys (r5 s b l p q)) 31)], 1⟩ [True, True] ⟨trivial, trivial, trivial⟩ ?_
   refine ct ?_
   refine rg [] 1 ⟨[(2, .f), (1, .p 0)], [(0, .cells (mr W xs ys (r5 s b l p q)) 31)], 1⟩ [] trivial ?_
   refine xw_ret ?_
   refine an_ret ?_
   exact bs (.f) (Or.inr <| ⟨(by omega), rfl⟩)
  ·
   refine pc (rright_2 s b l ‹_›) ?_
   refine rk [] 1 3 ⟨[(4, .f), (3, .f), (2, .f), (1, .p 0)], [(0, .cells (mr W xs ys (r5 s b l p q)) 31)], 1⟩ [] trivial ?_
   refine en ?_
   refine an ?_
   refine xw_seq ?_
   refine rg [] 15 ⟨[(25, .t), (2, .f), (1, .p 0)], [(0, .cells (mr W xs ys (r5 s b l p q)) 31)], 1⟩ [True, True] ⟨trivial, trivial, trivial⟩ ?_
   refine ct ?_
   refine rg [] 1 ⟨[(2, .f), (1, .p 0)], [(0, .cells (mr W xs ys (r5 s b l p q)) 31)], 1⟩ [] trivial ?_
   refine xw_ret ?_
   refine an_ret ?_
   exact bs (.f) (Or.inr <| ⟨(by omega), rfl⟩)

theorem rbfright_1 (W : Int) (xs ys : List Int) (s b l p q : Int) (hp0 : -9223372036854775808 ≤ W ∧ W ≤ 9223372036854775807) (hp1 : -9223372036854775808 ≤ s ∧ s ≤ 9223372036854775807) (hp2 : -9223372036854775808 ≤ b ∧ b ≤ 9223372036854775807) (hp3 : -9223372036854775808 ≤ l ∧ l ≤ 9223372036854775807) (hp4 : -9223372036854775808 ≤ p ∧ p ≤ 9223372036854775807) (hp5 : -9223372036854775808 ≤ q ∧ q ≤ 9223372036854775807) (hp6 : 16 ≤ W ∧ W ≤ 4096 ∧ (xs.length : Int) = W ∧ (ys.length : Int) = W ∧ (s = 0 ∨ s = 1) ∧ 0 ≤ b ∧ b ≤ l ∧ l ≤ 4096 ∧ l = W ∧ ((p = 0 ∧ q = 0) ∨ (0 ≤ p ∧ p ≤ q ∧ q ≤ b))) : Pub Try.prog 9 [.agg (mr W xs ys (r5 s b l p q))] (fun rv => rv = .t) := by
  refine (rbfright W xs ys s b l p q hp0 hp1 hp2 hp3 hp4 hp5).mono ?_
  rintro _ (⟨g0, rfl⟩ | ⟨g0, rfl⟩)
  all_goals first | rfl | (exfalso; first | omega | grind)

theorem rbfright_2 (W : Int) (xs ys : List Int) (s b l p q : Int) (hp0 : -9223372036854775808 ≤ W ∧ W ≤ 9223372036854775807) (hp1 : -9223372036854775808 ≤ s ∧ s ≤ 9223372036854775807) (hp2 : -9223372036854775808 ≤ b ∧ b ≤ 9223372036854775807) (hp3 : -9223372036854775808 ≤ l ∧ l ≤ 9223372036854775807) (hp4 : -9223372036854775808 ≤ p ∧ p ≤ 9223372036854775807) (hp5 : -9223372036854775808 ≤ q ∧ q ≤ 9223372036854775807) (hp6 : ¬ (16 ≤ W ∧ W ≤ 4096 ∧ (xs.length : Int) = W ∧ (ys.length : Int) = W ∧ (s = 0 ∨ s = 1) ∧ 0 ≤ b ∧ b ≤ l ∧ l ≤ 4096 ∧ l = W ∧ ((p = 0 ∧ q = 0) ∨ (0 ≤ p ∧ p ≤ q ∧ q ≤ b)))) : Pub Try.prog 9 [.agg (mr W xs ys (r5 s b l p q))] (fun rv => rv = .f) := by
  refine (rbfright W xs ys s b l p q hp0 hp1 hp2 hp3 hp4 hp5).mono ?_
  rintro _ (⟨g0, rfl⟩ | ⟨g0, rfl⟩)
  all_goals first | rfl | (exfalso; first | omega | grind)

theorem rrsame (W : Int) (xs ys : List Int) (s b l p q W2 : Int) (xs2 ys2 : List Int) (s2 b2 l2 p2 q2 : Int) (hp0 : U64s xs) (hp1 : U64s ys) (hp2 : U64s xs2) (hp3 : U64s ys2) (hp4 : (xs.length : Int) ≤ 1000000) (hp5 : (ys.length : Int) ≤ 1000000) (hp6 : (xs2.length : Int) ≤ 1000000) (hp7 : (ys2.length : Int) ≤ 1000000) (hp8 : -9223372036854775808 ≤ W ∧ W ≤ 9223372036854775807) (hp9 : -9223372036854775808 ≤ W2 ∧ W2 ≤ 9223372036854775807) (hp10 : -9223372036854775808 ≤ s ∧ s ≤ 9223372036854775807) (hp11 : -9223372036854775808 ≤ s2 ∧ s2 ≤ 9223372036854775807) (hp12 : -9223372036854775808 ≤ b ∧ b ≤ 9223372036854775807) (hp13 : -9223372036854775808 ≤ b2 ∧ b2 ≤ 9223372036854775807) (hp14 : -9223372036854775808 ≤ l ∧ l ≤ 9223372036854775807) (hp15 : -9223372036854775808 ≤ l2 ∧ l2 ≤ 9223372036854775807) (hp16 : -9223372036854775808 ≤ p ∧ p ≤ 9223372036854775807) (hp17 : -9223372036854775808 ≤ p2 ∧ p2 ≤ 9223372036854775807) (hp18 : -9223372036854775808 ≤ q ∧ q ≤ 9223372036854775807) (hp19 : -9223372036854775808 ≤ q2 ∧ q2 ≤ 9223372036854775807) : Pub Try.prog 11 [.agg (mr W xs ys (r5 s b l p q)), .agg (mr W2 xs2 ys2 (r5 s2 b2 l2 p2 q2))] (fun rv => ((xs = xs2 ∧ ys = ys2 ∧ W = W2 ∧ s = s2 ∧ b = b2 ∧ l = l2 ∧ p = p2 ∧ q = q2) ∧ rv = .t) ∨ ((¬ (xs = xs2 ∧ ys = ys2 ∧ W = W2 ∧ s = s2 ∧ b = b2 ∧ l = l2 ∧ p = p2 ∧ q = q2)) ∧ rv = .f)) := by
 refine pub_of TT_ok Try.func11 rfl (by decide) (Nat.le_of_ble_eq_true (by kernel_rfl)) (by kernel_rfl) ?_
 refine rg [] 3 ⟨[(4, .f), (3, .p 1), (2, .p 0)], [(1, .cells (mr W2 xs2 ys2 (r5 s2 b2 l2 p2 q2)) 31), (0, .cells (mr W xs ys (r5 s b l p q)) 31)], 2⟩ [] trivial ?_
 refine xw_seq ?_
 refine reg ?_
 refine rk [] 4 0 ⟨[(9, .agg (mm W2 xs2 ys2)), (7, .agg (mm W xs ys)), (4, .f), (3, .p 1), (2, .p 0)], [(1, .cells (mr W2 xs2 ys2 (r5 s2 b2 l2 p2 q2)) 31), (0, .cells (mr W xs ys (r5 s b l p q)) 31)], 2⟩ [True, True] ⟨trivial, trivial, trivial⟩ ?_
 by_cases h0 : xs = xs2 ∧ ys = ys2 ∧ W = W2
 ·
  refine pc (rsame_1 W xs ys W2 xs2 ys2 ‹_› ‹_› ‹_› ‹_› ‹_› ‹_› ‹_› ‹_› ‹_› ‹_› ‹_›) ?_
  refine rk [] 1 5 ⟨[(5, .t), (4, .f), (3, .p 1), (2, .p 0)], [(1, .cells (mr W2 xs2 ys2 (r5 s2 b2 l2 p2 q2)) 31), (0, .cells (mr W xs ys (r5 s b l p q)) 31)], 2⟩ [] trivial ?_
  refine en ?_
  refine an ?_
  refine xw_seq ?_
  refine reg ?_
  refine rk [(6, .bool ((s == s2) && ((b == b2) && ((l == l2) && true))))] 9 0 ⟨[(19, .bool ((s == s2) && ((b == b2) && ((l == l2) && true)))), (4, .f), (3, .p 1), (2, .p 0)], [(1, .cells (mr W2 xs2 ys2 (r5 s2 b2 l2 p2 q2)) 31), (0, .cells (mr W xs ys (r5 s b l p q)) 31)], 2⟩ [True, True, ((s == s2) && ((b == b2) && ((l == l2) && true))) = ((s == s2) && ((b == b2) && ((l == l2) && true))), True] ⟨trivial, trivial, rfl, trivial, trivial⟩ ?_
  refine splitr 19 (x := ((s == s2) && ((b == b2) && ((l == l2) && true)))) (by kernel_rfl) (fun h1 => ?_) (fun h1 => ?_)
  ·
   replace h1 : (s = s2) ∧ ((b = b2) ∧ (l = l2)) := by first | (simp; done) | simpa using h1
   refine rk [(13, .bool ((p == p2) && ((q == q2) && true)))] 7 9 ⟨[(4, .bool ((p == p2) && ((q == q2) && true)))], [], 2⟩ [True, True, ((p == p2) && ((q == q2) && true)) = ((p == p2) && ((q == q2) && true)), True] ⟨trivial, trivial, rfl, trivial, trivial⟩ ?_
   refine en ?_
   refine an ?_
   refine xw_ret ?_
   by_cases h2 : (p = p2) ∧ (q = q2)
   ·
    exact br (.bool ((p == p2) && ((q == q2) && true))) (.t) (wkd [((p == p2) && ((q == q2) && true)) = true] (by kernel_rfl) ⟨(by first | (subst_vars; exact ⟨rfl, rfl, rfl, rfl, rfl, rfl, rfl, rfl⟩) | simp_all | omega), trivial⟩) (Or.inl <| ⟨(by first | (subst_vars; exact ⟨rfl, rfl, rfl, rfl, rfl, rfl, rfl, rfl⟩) | simp_all | omega), rfl⟩)
   ·
    exact br (.bool ((p == p2) && ((q == q2) && true))) (.f) (wkd [((p == p2) && ((q == q2) && true)) = false] (by kernel_rfl) ⟨(by first | (subst_vars; exact ⟨rfl, rfl, rfl, rfl, rfl, rfl, rfl, rfl⟩) | simp_all | omega), trivial⟩) (Or.inr <| ⟨(by first | (subst_vars; exact ⟨rfl, rfl, rfl, rfl, rfl, rfl, rfl, rfl⟩) | simp_all | omega), rfl⟩)
  ·
   replace h1 : ¬ ((s = s2) ∧ ((b = b2) ∧ (l = l2))) := by first | (simp; done) | simpa using h1 | (simp at h1; omega)
   refine rk [] 7 9 ⟨[(4, .f)], [], 2⟩ [True] ⟨trivial, trivial⟩ ?_
   refine en ?_
   refine an ?_
   refine xw_ret ?_
   exact bs (.f) (Or.inr <| ⟨(by first | (subst_vars; exact ⟨rfl, rfl, rfl, rfl, rfl, rfl, rfl, rfl⟩) | simp_all | omega), rfl⟩)
 ·
  refine pc (rsame_2 W xs ys W2 xs2 ys2 ‹_› ‹_› ‹_› ‹_› ‹_› ‹_› ‹_› ‹_› ‹_› ‹_› ‹_›) ?_
  refine rk [] 1 5 ⟨[(5, .f), (4, .f), (3, .p 1), (2, .p 0)], [(1, .cells (mr W2 xs2 ys2 (r5 s2 b2 l2 p2 q2)) 31), (0, .cells (mr W xs ys (r5 s b l p q)) 31)], 2⟩ [] trivial ?_
  refine en ?_
  refine an ?_
  refine rg [] 16 ⟨[(4, .f)], [], 2⟩ [True, True] ⟨trivial, trivial, trivial⟩ ?_
  refine xw_ret ?_
  exact bs (.f) (Or.inr <| ⟨(by first | (subst_vars; exact ⟨rfl, rfl, rfl, rfl, rfl, rfl, rfl, rfl⟩) | simp_all | omega), rfl⟩)

theorem rrsame_1 (W : Int) (xs ys : List Int) (s b l p q W2 : Int) (xs2 ys2 : List Int) (s2 b2 l2 p2 q2 : Int) (hp0 : U64s xs) (hp1 : U64s ys) (hp2 : U64s xs2) (hp3 : U64s ys2) (hp4 : (xs.length : Int) ≤ 1000000) (hp5 : (ys.length : Int) ≤ 1000000) (hp6 : (xs2.length : Int) ≤ 1000000) (hp7 : (ys2.length : Int) ≤ 1000000) (hp8 : -9223372036854775808 ≤ W ∧ W ≤ 9223372036854775807) (hp9 : -9223372036854775808 ≤ W2 ∧ W2 ≤ 9223372036854775807) (hp10 : -9223372036854775808 ≤ s ∧ s ≤ 9223372036854775807) (hp11 : -9223372036854775808 ≤ s2 ∧ s2 ≤ 9223372036854775807) (hp12 : -9223372036854775808 ≤ b ∧ b ≤ 9223372036854775807) (hp13 : -9223372036854775808 ≤ b2 ∧ b2 ≤ 9223372036854775807) (hp14 : -9223372036854775808 ≤ l ∧ l ≤ 9223372036854775807) (hp15 : -9223372036854775808 ≤ l2 ∧ l2 ≤ 9223372036854775807) (hp16 : -9223372036854775808 ≤ p ∧ p ≤ 9223372036854775807) (hp17 : -9223372036854775808 ≤ p2 ∧ p2 ≤ 9223372036854775807) (hp18 : -9223372036854775808 ≤ q ∧ q ≤ 9223372036854775807) (hp19 : -9223372036854775808 ≤ q2 ∧ q2 ≤ 9223372036854775807) (hp20 : xs = xs2 ∧ ys = ys2 ∧ W = W2 ∧ s = s2 ∧ b = b2 ∧ l = l2 ∧ p = p2 ∧ q = q2) : Pub Try.prog 11 [.agg (mr W xs ys (r5 s b l p q)), .agg (mr W2 xs2 ys2 (r5 s2 b2 l2 p2 q2))] (fun rv => rv = .t) := by
  refine (rrsame W xs ys s b l p q W2 xs2 ys2 s2 b2 l2 p2 q2 hp0 hp1 hp2 hp3 hp4 hp5 hp6 hp7 hp8 hp9 hp10 hp11 hp12 hp13 hp14 hp15 hp16 hp17 hp18 hp19).mono ?_
  rintro _ (⟨g0, rfl⟩ | ⟨g0, rfl⟩)
  all_goals first | rfl | (exfalso; first | omega | grind)

end Go.Proofs.Ytnfkgfibinimmaa.X
