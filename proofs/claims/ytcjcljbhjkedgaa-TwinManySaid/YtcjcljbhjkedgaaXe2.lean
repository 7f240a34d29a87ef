/- Contracts of Go functions: what each returns, for every input that its premises name; no memory of the caller is touched. Printed by a program. -/
import Derived.Test.YtcjcljbhjkedgaaXe1
namespace Go.Proofs.Ytcjcljbhjkedgaa.X
open Go Go.RowKit
set_option linter.unusedVariables false      -- a premise may serve only to tell which way is taken
set_option linter.unusedSimpArgs false
theorem rbfright (W : Int) (xs : List Int) (ys : List Int) (s : Int) (b : Int) (l : Int) (p : Int) (q : Int) (hp0 : -9223372036854775808 ≤ W ∧ W ≤ 9223372036854775807) (hp1 : -9223372036854775808 ≤ s ∧ s ≤ 9223372036854775807) (hp2 : -9223372036854775808 ≤ b ∧ b ≤ 9223372036854775807) (hp3 : -9223372036854775808 ≤ l ∧ l ≤ 9223372036854775807) (hp4 : -9223372036854775808 ≤ p ∧ p ≤ 9223372036854775807) (hp5 : -9223372036854775808 ≤ q ∧ q ≤ 9223372036854775807) : Pub Try.prog 26 [.agg (mm W xs ys ++ [.int .i64 s, .int .i64 b, .int .i64 l, .int .i64 p, .int .i64 q])] (fun rv => ((16 ≤ W ∧ W ≤ 4096 ∧ (xs.length : Int) = W ∧ (ys.length : Int) = W ∧ (s = 0 ∨ s = 1) ∧ 0 ≤ b ∧ b ≤ l ∧ l ≤ 4096 ∧ l = W ∧ ((p = 0 ∧ q = 0) ∨ (0 ≤ p ∧ p ≤ q ∧ q ≤ b))) ∧ rv = .bool true) ∨ ((¬ (16 ≤ W ∧ W ≤ 4096 ∧ (xs.length : Int) = W ∧ (ys.length : Int) = W ∧ (s = 0 ∨ s = 1) ∧ 0 ≤ b ∧ b ≤ l ∧ l ≤ 4096 ∧ l = W ∧ ((p = 0 ∧ q = 0) ∨ (0 ≤ p ∧ p ≤ q ∧ q ≤ b)))) ∧ rv = .bool false)) := by
 refine pub_of TT_ok Try.func26 rfl (by decide) (Nat.le_of_ble_eq_true (by kernel_rfl)) (by kernel_rfl) ?_
 refine rg [] 2 ⟨[(2, .f), (1, .p 0)], [(0, .cells (mm W xs ys ++ [.i s, .i b, .i l, .i p, .i q]) 54)], 1⟩ [] trivial ?_
 refine xw_seq ?_
 refine reg ?_
 refine rk [] 2 0 ⟨[(6, .agg (mm W xs ys)), (2, .f), (1, .p 0)], [(0, .cells (mm W xs ys ++ [.i s, .i b, .i l, .i p, .i q]) 54)], 1⟩ [True] ⟨trivial, trivial⟩ ?_
 by_cases h0 : 16 ≤ W ∧ W ≤ 4096 ∧ (xs.length : Int) = W ∧ (ys.length : Int) = W
 ·
  refine pc (rmright_1 W xs ys ‹_› ‹_›) ?_
  refine rk [] 1 3 ⟨[(3, .t), (2, .f), (1, .p 0)], [(0, .cells (mm W xs ys ++ [.i s, .i b, .i l, .i p, .i q]) 54)], 1⟩ [] trivial ?_
  refine en ?_
  refine an ?_
  refine xw_seq ?_
  refine reg ?_
  refine rk [] 2 0 ⟨[(9, .agg [.i s, .i b, .i l]), (3, .t), (2, .f), (1, .p 0)], [(0, .cells (mm W xs ys ++ [.i s, .i b, .i l, .i p, .i q]) 54)], 1⟩ [True] ⟨trivial, trivial⟩ ?_
  by_cases h1 : (s = 0 ∨ s = 1) ∧ 0 ≤ b ∧ b ≤ l ∧ l ≤ 4096
  ·
   refine pc (rright_1 s b l ‹_›) ?_
   refine rk [] 1 3 ⟨[(4, .t), (3, .t), (2, .f), (1, .p 0)], [(0, .cells (mm W xs ys ++ [.i s, .i b, .i l, .i p, .i q]) 54)], 1⟩ [] trivial ?_
   refine en ?_
   refine an ?_
   refine xw_seq ?_
   refine rg [(13, .bool (l != W))] 15 ⟨[(25, .bool (l != W)), (2, .f), (1, .p 0)], [(0, .cells (mm W xs ys ++ [.i s, .i b, .i l, .i p, .i q]) 54)], 1⟩ [True, True, True, (l != W) = (l != W), True] ⟨trivial, trivial, trivial, rfl, trivial, trivial⟩ ?_
   refine xw_cond (b := (l != W)) (by kernel_rfl) (fun h2 => ?_) (fun h2 => ?_)
   ·
    replace h2 : l ≠ W := bne_iff_ne.1 h2
    refine rg [] 1 ⟨[(2, .f), (1, .p 0)], [(0, .cells (mm W xs ys ++ [.i s, .i b, .i l, .i p, .i q]) 54)], 1⟩ [] trivial ?_
    refine xw_ret ?_
    refine an_ret ?_
    exact bs (.f) (Or.inr <| ⟨(by omega), rfl⟩)
   ·
    replace h2 : l = W := bne_eq_false_iff_eq.1 h2
    refine xw_skip ?_
    refine an ?_
    refine xw_seq ?_
    refine xw_seq ?_
    refine reg ?_
    refine rk [(3, .bool (p == 0))] 5 0 ⟨[(30, .bool (p == 0)), (2, .f), (1, .p 0)], [(0, .cells (mm W xs ys ++ [.i s, .i b, .i l, .i p, .i q]) 54)], 1⟩ [True, (p == 0) = (p == 0)] ⟨trivial, rfl, trivial⟩ ?_
    refine splitr 30 (x := (p == 0)) (by kernel_rfl) (fun h3 => ?_) (fun h3 => ?_)
    ·
     replace h3 : p = 0 := eq_of_beq h3
     refine rk [(8, .bool (q == 0))] 5 5 ⟨[(35, .bool (q == 0)), (2, .f), (1, .p 0)], [(0, .cells (mm W xs ys ++ [.i s, .i b, .i l, .i p, .i q]) 54)], 1⟩ [True, (q == 0) = (q == 0), True] ⟨trivial, rfl, trivial, trivial⟩ ?_
     refine en ?_
     refine an ?_
     refine xw_cond (b := (q == 0)) (by kernel_rfl) (fun h4 => ?_) (fun h4 => ?_)
     ·
      replace h4 : q = 0 := eq_of_beq h4
      refine rg [] 1 ⟨[(2, .t), (1, .p 0)], [(0, .cells (mm W xs ys ++ [.i s, .i b, .i l, .i p, .i q]) 54)], 1⟩ [] trivial ?_
      refine xw_ret ?_
      refine an_ret ?_
      exact bs (.t) (Or.inl <| ⟨(by omega), rfl⟩)
     ·
      replace h4 : q ≠ 0 := ne_of_beq_false h4
      refine xw_skip ?_
      refine an ?_
      refine xw_seq ?_
      refine reg ?_
      refine rk [(3, .t), (11, .bool (decide (p ≤ q)))] 14 0 ⟨[(49, .bool (decide (p ≤ q))), (2, .f), (1, .p 0)], [(0, .cells (mm W xs ys ++ [.i s, .i b, .i l, .i p, .i q]) 54)], 1⟩ [True, (decide (0 ≤ p)) = true, True, True, (decide (p ≤ q)) = (decide (p ≤ q)), True] ⟨trivial, decide_eq_true (by omega), trivial, trivial, rfl, trivial, trivial⟩ ?_
      refine splitr 49 (x := (decide (p ≤ q))) (by kernel_rfl) (fun h5 => ?_) (fun h5 => ?_)
      ·
       replace h5 : p ≤ q := of_decide_eq_true h5
       refine rk [(20, .bool (decide (q ≤ b)))] 9 14 ⟨[(2, .bool (decide (q ≤ b)))], [], 1⟩ [True, True, (decide (q ≤ b)) = (decide (q ≤ b)), True] ⟨trivial, trivial, rfl, trivial, trivial⟩ ?_
       refine en ?_
       refine an ?_
       refine xw_ret ?_
       by_cases h6 : q ≤ b
       ·
        exact bk_ret (.bool (decide (q ≤ b))) (.bool (decide (q ≤ b))) (.t) (by kernel_rfl) (by kernel_rfl) (wkd [(decide (q ≤ b)) = true] (by kernel_rfl) ⟨(by first | exact decide_eq_true (by omega) | exact decide_eq_false (by omega) | (simp; done) | (simp; omega) | simp_all | grind), trivial⟩) (Or.inl <| ⟨(by omega), rfl⟩)
       ·
        exact bk_ret (.bool (decide (q ≤ b))) (.bool (decide (q ≤ b))) (.f) (by kernel_rfl) (by kernel_rfl) (wkd [(decide (q ≤ b)) = false] (by kernel_rfl) ⟨(by first | exact decide_eq_true (by omega) | exact decide_eq_false (by omega) | (simp; done) | (simp; omega) | simp_all | grind), trivial⟩) (Or.inr <| ⟨(by omega), rfl⟩)
      ·
       replace h5 : ¬ (p ≤ q) := of_decide_eq_false h5
       refine rk [] 9 14 ⟨[(2, .f)], [], 1⟩ [True] ⟨trivial, trivial⟩ ?_
       refine en ?_
       refine an ?_
       refine xw_ret ?_
       exact bs (.f) (Or.inr <| ⟨(by omega), rfl⟩)
    ·
     replace h3 : p ≠ 0 := ne_of_beq_false h3
     refine rk [] 5 5 ⟨[(35, .f), (2, .f), (1, .p 0)], [(0, .cells (mm W xs ys ++ [.i s, .i b, .i l, .i p, .i q]) 54)], 1⟩ [True] ⟨trivial, trivial⟩ ?_
     refine en ?_
     refine an ?_
     refine cf ?_
     refine xw_skip ?_
     refine an ?_
     refine xw_seq ?_
     refine reg ?_
     refine rk [(3, .bool (decide (0 ≤ p)))] 5 0 ⟨[(40, .bool (decide (0 ≤ p))), (2, .f), (1, .p 0)], [(0, .cells (mm W xs ys ++ [.i s, .i b, .i l, .i p, .i q]) 54)], 1⟩ [True, (decide (0 ≤ p)) = (decide (0 ≤ p))] ⟨trivial, rfl, trivial⟩ ?_
     refine splitr 40 (x := (decide (0 ≤ p))) (by kernel_rfl) (fun h4 => ?_) (fun h4 => ?_)
     ·
      replace h4 : 0 ≤ p := of_decide_eq_true h4
      refine rk [(11, .bool (decide (p ≤ q)))] 9 5 ⟨[(49, .bool (decide (p ≤ q))), (2, .f), (1, .p 0)], [(0, .cells (mm W xs ys ++ [.i s, .i b, .i l, .i p, .i q]) 54)], 1⟩ [True, True, (decide (p ≤ q)) = (decide (p ≤ q)), True] ⟨trivial, trivial, rfl, trivial, trivial⟩ ?_
      refine splitr 49 (x := (decide (p ≤ q))) (by kernel_rfl) (fun h5 => ?_) (fun h5 => ?_)
      ·
       replace h5 : p ≤ q := of_decide_eq_true h5
       refine rk [(20, .bool (decide (q ≤ b)))] 9 14 ⟨[(2, .bool (decide (q ≤ b)))], [], 1⟩ [True, True, (decide (q ≤ b)) = (decide (q ≤ b)), True] ⟨trivial, trivial, rfl, trivial, trivial⟩ ?_
       refine en ?_
       refine an ?_
       refine xw_ret ?_
       by_cases h6 : q ≤ b
       ·
        exact bk_ret (.bool (decide (q ≤ b))) (.bool (decide (q ≤ b))) (.t) (by kernel_rfl) (by kernel_rfl) (wkd [(decide (q ≤ b)) = true] (by kernel_rfl) ⟨(by first | exact decide_eq_true (by omega) | exact decide_eq_false (by omega) | (simp; done) | (simp; omega) | simp_all | grind), trivial⟩) (Or.inl <| ⟨(by omega), rfl⟩)
       ·
        exact bk_ret (.bool (decide (q ≤ b))) (.bool (decide (q ≤ b))) (.f) (by kernel_rfl) (by kernel_rfl) (wkd [(decide (q ≤ b)) = false] (by kernel_rfl) ⟨(by first | exact decide_eq_true (by omega) | exact decide_eq_false (by omega) | (simp; done) | (simp; omega) | simp_all | grind), trivial⟩) (Or.inr <| ⟨(by omega), rfl⟩)
      ·
       replace h5 : ¬ (p ≤ q) := of_decide_eq_false h5
       refine rk [] 9 14 ⟨[(2, .f)], [], 1⟩ [True] ⟨trivial, trivial⟩ ?_
       refine en ?_
       refine an ?_
       refine xw_ret ?_
       exact bs (.f) (Or.inr <| ⟨(by omega), rfl⟩)
     ·
      replace h4 : ¬ (0 ≤ p) := of_decide_eq_false h4
      refine rk [] 18 5 ⟨[(2, .f)], [], 1⟩ [True, True] ⟨trivial, trivial, trivial⟩ ?_
      refine en ?_
      refine an ?_
      refine xw_ret ?_
      exact bs (.f) (Or.inr <| ⟨(by omega), rfl⟩)
  ·
   refine pc (rright_2 s b l ‹_›) ?_
   refine rk [] 1 3 ⟨[(4, .f), (3, .t), (2, .f), (1, .p 0)], [(0, .cells (mm W xs ys ++ [.i s, .i b, .i l, .i p, .i q]) 54)], 1⟩ [] trivial ?_
   refine en ?_
   refine an ?_
   refine xw_seq ?_
   refine rg [] 15 ⟨[(25, .t), (2, .f), (1, .p 0)], [(0, .cells (mm W xs ys ++ [.i s, .i b, .i l, .i p, .i q]) 54)], 1⟩ [True, True] ⟨trivial, trivial, trivial⟩ ?_
   refine ct ?_
   refine rg [] 1 ⟨[(2, .f), (1, .p 0)], [(0, .cells (mm W xs ys ++ [.i s, .i b, .i l, .i p, .i q]) 54)], 1⟩ [] trivial ?_
   refine xw_ret ?_
   refine an_ret ?_
   exact bs (.f) (Or.inr <| ⟨(by omega), rfl⟩)
 ·
  refine pc (rmright_2 W xs ys ‹_› ‹_›) ?_
  refine rk [] 1 3 ⟨[(3, .f), (2, .f), (1, .p 0)], [(0, .cells (mm W xs ys ++ [.i s, .i b, .i l, .i p, .i q]) 54)], 1⟩ [] trivial ?_
  refine en ?_
  refine an ?_
  refine xw_seq ?_
  refine reg ?_
  refine rk [] 2 0 ⟨[(9, .agg [.i s, .i b, .i l]), (3, .f), (2, .f), (1, .p 0)], [(0, .cells (mm W xs ys ++ [.i s, .i b, .i l, .i p, .i q]) 54)], 1⟩ [True] ⟨trivial, trivial⟩ ?_
  by_cases h1 : (s = 0 ∨ s = 1) ∧ 0 ≤ b ∧ b ≤ l ∧ l ≤ 4096
  ·
   refine pc (rright_1 s b l ‹_›) ?_
   refine rk [] 1 3 ⟨[(4, .t), (3, .f), (2, .f), (1, .p 0)], [(0, .cells (mm W xs ys ++ [.i s, .i b, .i l, .i p, .i q]) 54)], 1⟩ [] trivial ?_
   refine en ?_
   refine an ?_
   refine xw_seq ?_
   refine rg [] 15 ⟨[(25, .t), (2, .f), (1, .p 0)], [(0, .cells (mm W xs ys ++ [.i s, .i b, .i l, .i p, .i q]) 54)], 1⟩ [True, True] ⟨trivial, trivial, trivial⟩ ?_
   refine ct ?_
   refine rg [] 1 ⟨[(2, .f), (1, .p 0)], [(0, .cells (mm W xs ys ++ [.i s, .i b, .i l, .i p, .i q]) 54)], 1⟩ [] trivial ?_
   refine xw_ret ?_
   refine an_ret ?_
   exact bs (.f) (Or.inr <| ⟨(by omega), rfl⟩)
  ·
   refine pc (rright_2 s b l ‹_›) ?_
   refine rk [] 1 3 ⟨[(4, .f), (3, .f), (2, .f), (1, .p 0)], [(0, .cells (mm W xs ys ++ [.i s, .i b, .i l, .i p, .i q]) 54)], 1⟩ [] trivial ?_
   refine en ?_
   refine an ?_
   refine xw_seq ?_
   refine rg [] 15 ⟨[(25, .t), (2, .f), (1, .p 0)], [(0, .cells (mm W xs ys ++ [.i s, .i b, .i l, .i p, .i q]) 54)], 1⟩ [True, True] ⟨trivial, trivial, trivial⟩ ?_
   refine ct ?_
   refine rg [] 1 ⟨[(2, .f), (1, .p 0)], [(0, .cells (mm W xs ys ++ [.i s, .i b, .i l, .i p, .i q]) 54)], 1⟩ [] trivial ?_
   refine xw_ret ?_
   refine an_ret ?_
   exact bs (.f) (Or.inr <| ⟨(by omega), rfl⟩)

theorem rbfright_1 (W : Int) (xs : List Int) (ys : List Int) (s : Int) (b : Int) (l : Int) (p : Int) (q : Int) (hp0 : -9223372036854775808 ≤ W ∧ W ≤ 9223372036854775807) (hp1 : -9223372036854775808 ≤ s ∧ s ≤ 9223372036854775807) (hp2 : -9223372036854775808 ≤ b ∧ b ≤ 9223372036854775807) (hp3 : -9223372036854775808 ≤ l ∧ l ≤ 9223372036854775807) (hp4 : -9223372036854775808 ≤ p ∧ p ≤ 9223372036854775807) (hp5 : -9223372036854775808 ≤ q ∧ q ≤ 9223372036854775807) (hp6 : 16 ≤ W ∧ W ≤ 4096 ∧ (xs.length : Int) = W ∧ (ys.length : Int) = W ∧ (s = 0 ∨ s = 1) ∧ 0 ≤ b ∧ b ≤ l ∧ l ≤ 4096 ∧ l = W ∧ ((p = 0 ∧ q = 0) ∨ (0 ≤ p ∧ p ≤ q ∧ q ≤ b))) : Pub Try.prog 26 [.agg (mm W xs ys ++ [.int .i64 s, .int .i64 b, .int .i64 l, .int .i64 p, .int .i64 q])] (fun rv => rv = .bool true) := by
  refine (rbfright W xs ys s b l p q hp0 hp1 hp2 hp3 hp4 hp5).mono ?_
  rintro _ (⟨g0, rfl⟩ | ⟨g0, rfl⟩)
  · rfl
  · exfalso; first | omega | grind

theorem rbfright_2 (W : Int) (xs : List Int) (ys : List Int) (s : Int) (b : Int) (l : Int) (p : Int) (q : Int) (hp0 : -9223372036854775808 ≤ W ∧ W ≤ 9223372036854775807) (hp1 : -9223372036854775808 ≤ s ∧ s ≤ 9223372036854775807) (hp2 : -9223372036854775808 ≤ b ∧ b ≤ 9223372036854775807) (hp3 : -9223372036854775808 ≤ l ∧ l ≤ 9223372036854775807) (hp4 : -9223372036854775808 ≤ p ∧ p ≤ 9223372036854775807) (hp5 : -9223372036854775808 ≤ q ∧ q ≤ 9223372036854775807) (hp6 : ¬ (16 ≤ W ∧ W ≤ 4096 ∧ (xs.length : Int) = W ∧ (ys.length : Int) = W ∧ (s = 0 ∨ s = 1) ∧ 0 ≤ b ∧ b ≤ l ∧ l ≤ 4096 ∧ l = W ∧ ((p = 0 ∧ q = 0) ∨ (0 ≤ p ∧ p ≤ q ∧ q ≤ b)))) : Pub Try.prog 26 [.agg (mm W xs ys ++ [.int .i64 s, .int .i64 b, .int .i64 l, .int .i64 p, .int .i64 q])] (fun rv => rv = .bool false) := by
  refine (rbfright W xs ys s b l p q hp0 hp1 hp2 hp3 hp4 hp5).mono ?_
  rintro _ (⟨g0, rfl⟩ | ⟨g0, rfl⟩)
  · exfalso; first | omega | grind
  · rfl

theorem gap (W : Int) (xs : List Int) (ys : List Int) (s : Int) (b : Int) (l : Int) (p : Int) (q : Int) (hp0 : 0 ≤ p ∧ p ≤ q ∧ q ≤ 4096) : Pub Try.prog 25 [.agg (mm W xs ys ++ [.int .i64 s, .int .i64 b, .int .i64 l, .int .i64 p, .int .i64 q])] (fun rv => rv = .int .i64 (q - p)) := by
 refine pub_of TT_ok Try.func25 rfl (by decide) (Nat.le_of_ble_eq_true (by kernel_rfl)) (by kernel_rfl) ?_
 refine rg [] 2 ⟨[(2, .i 0), (1, .p 0)], [(0, .cells (mm W xs ys ++ [.i s, .i b, .i l, .i p, .i q]) 54)], 1⟩ [] trivial ?_
 refine rg [(6, .i (q - p))] 8 ⟨[(2, .i (q - p))], [], 1⟩ [True, True, IntKind.i64.wrap (q - p) = (q - p)] ⟨trivial, trivial, i64_eq (by omega) (by omega), trivial⟩ ?_
 refine xw_ret ?_
 exact bs (.i (q - p)) rfl

theorem retire (W : Int) (xs : List Int) (ys : List Int) (s : Int) (b : Int) (l : Int) (p : Int) (q : Int) (hp0 : 16 ≤ W ∧ W ≤ 4096) (hp1 : (xs.length : Int) = W) (hp2 : (ys.length : Int) = W) (hp3 : U64s xs) (hp4 : U64s ys) (hp5 : (s = 0 ∨ s = 1) ∧ 0 ≤ b ∧ b ≤ l ∧ l ≤ 4096) (hp6 : l = W) (hp7 : 0 ≤ p ∧ p ≤ q ∧ q ≤ b) : Pub Try.prog 23 [.agg (mm W xs ys ++ [.int .i64 s, .int .i64 b, .int .i64 l, .int .i64 p, .int .i64 q])] (fun rv => rv = .agg (mm W (rtx xs s p q) (rty ys s p q) ++ [.int .i64 s, .int .i64 b, .int .i64 l, .int .i64 0, .int .i64 0])) := by
 refine pub_of TT_ok Try.func23 rfl (by decide) (Nat.le_of_ble_eq_true (by kernel_rfl)) (by kernel_rfl) ?_
 refine rg [] 2 ⟨[(2, .p 1), (1, .p 0)], [(1, .cells [.i 0, .nils, .nils, .i 0, .i 0, .i 0, .i 0, .i 0] 54), (0, .cells (mm W xs ys ++ [.i s, .i b, .i l, .i p, .i q]) 54)], 2⟩ [] trivial ?_
 refine xw_seq ?_
 refine xw_seq ?_
 refine reg ?_
 refine rk [] 1 0 ⟨[(3, .agg (mm W xs ys ++ [.i s, .i b, .i l, .i p, .i q])), (2, .p 1), (1, .p 0)], [(1, .cells [.i 0, .nils, .nils, .i 0, .i 0, .i 0, .i 0, .i 0] 54), (0, .cells (mm W xs ys ++ [.i s, .i b, .i l, .i p, .i q]) 54)], 2⟩ [True] ⟨trivial, trivial⟩ ?_
 refine pc (gap W xs ys s b l p q (by omega)) ?_
 refine rk [(2, .bool (decide (0 < (q - p))))] 1 2 ⟨[(5, .bool (decide (0 < (q - p)))), (2, .p 1), (1, .p 0)], [(1, .cells [.i 0, .nils, .nils, .i 0, .i 0, .i 0, .i 0, .i 0] 54), (0, .cells (mm W xs ys ++ [.i s, .i b, .i l, .i p, .i q]) 54)], 2⟩ [(decide (0 < (q - p))) = (decide (0 < (q - p)))] ⟨rfl, trivial⟩ ?_
 refine en ?_
 refine an ?_
 refine xw_cond (b := (decide (0 < (q - p)))) (by kernel_rfl) (fun h0 => ?_) (fun h0 => ?_)
 ·
  replace h0 : 0 < (q - p) := of_decide_eq_true h0
  refine sreg hmix [([(1, .cells [.i 0, .nils, .nils, .i 0, .i 0, .i 0, .i 0, .i 0] 54), (0, .cells (mm W xs ys ++ [.i s, .i b, .i l, .i p, .i q]) 54)], 2), ([(1, .cells [.i 0, .nils, .nils, .i 0, .i 0, .i 0, .i 0, .i 0] 54), (0, .cells (mm W (px xs ((s + 1) * 4294967296 + p) 255 ((q - p) - 1) 0) (py ys ((s + 1) * 4294967296 + p) 255 ((q - p) - 1) 0) ++ [.i s, .i b, .i l, .i p, .i q]) 54)], 2)] [16] [(1, [0]), (3, [2]), (4, [2, 3]), (6, [5]), (7, [5, 6]), (8, [2, 3, 4, 5, 6, 7]), (10, [2, 3, 4, 5, 6, 7, 8, 9]), (11, [0, 1, 2, 3, 4, 5, 6, 7, 8, 9, 10]), (12, [0, 1, 2, 3, 4, 5, 6, 7, 8, 9, 10, 11]), (13, [0, 1, 2, 3, 4, 5, 6, 7, 8, 9, 10, 11, 12]), (14, [0, 1, 2, 3, 4, 5, 6, 7, 8, 9, 10, 11, 12]), (15, [0, 1, 2, 3, 4, 5, 6, 7, 8, 9, 10, 11, 12, 13]), (16, [0, 1, 2, 3, 4, 5, 6, 7, 8, 9, 10, 11, 12, 13, 15])] rfl (by kernel_rfl) (by kernel_rfl) (by kernel_rfl) (by kernel_rfl) ?_
  refine sr [] 8 0 [(14, .i p), (13, .loc 0 6), (12, .loc 0 6), (11, .i s), (10, .loc 0 3), (9, .loc 0 3), (8, .agg (mm W xs ys)), (7, .p 0), (5, .bool (decide (0 < (q - p)))), (2, .p 1), (1, .p 0)] [True, True, True, True, True, True, True, True] ⟨trivial, trivial, trivial, trivial, trivial, trivial, trivial, trivial, trivial⟩ ?_
  refine sc (addr_1 s p (by omega)) ?_
  refine sr [] 1 9 [(16, .agg (mm W xs ys ++ [.i s, .i b, .i l, .i p, .i q])), (15, .u ((s + 1) * 4294967296 + p)), (14, .i p), (13, .loc 0 6), (12, .loc 0 6), (11, .i s), (10, .loc 0 3), (9, .loc 0 3), (8, .agg (mm W xs ys)), (7, .p 0), (5, .bool (decide (0 < (q - p)))), (2, .p 1), (1, .p 0)] [True] ⟨trivial, trivial⟩ ?_
  refine sc (gap W xs ys s b l p q (by omega)) ?_
  refine sc (ofill_1 W xs ys ((s + 1) * 4294967296 + p) (q - p) ‹_› ‹_› ‹_› ‹_› ‹_› (by omega) (by omega) (by omega) (by omega) (by omega)) ?_
  obtain ⟨h1, h2, h3, h4, h5, h6⟩ := fill_ok W xs ys ((s + 1) * 4294967296 + p) (q - p) ‹_› ‹_› ‹_› ‹_› (by omega) (by omega) (by omega) (by omega)
  refine sr [] 5 12 [(21, .p 0), (20, .i 0), (19, .agg (mm W (px xs ((s + 1) * 4294967296 + p) 255 ((q - p) - 1) 0) (py ys ((s + 1) * 4294967296 + p) 255 ((q - p) - 1) 0))), (6, .tup [.agg (mm W (px xs ((s + 1) * 4294967296 + p) 255 ((q - p) - 1) 0) (py ys ((s + 1) * 4294967296 + p) 255 ((q - p) - 1) 0)), .i 0]), (18, .tup [.agg (mm W (px xs ((s + 1) * 4294967296 + p) 255 ((q - p) - 1) 0) (py ys ((s + 1) * 4294967296 + p) 255 ((q - p) - 1) 0)), .i 0]), (17, .i (q - p)), (16, .agg (mm W xs ys ++ [.i s, .i b, .i l, .i p, .i q])), (15, .u ((s + 1) * 4294967296 + p)), (14, .i p), (13, .loc 0 6), (12, .loc 0 6), (11, .i s), (10, .loc 0 3), (9, .loc 0 3), (8, .agg (mm W xs ys)), (7, .p 0), (5, .bool (decide (0 < (q - p)))), (2, .p 1), (1, .p 0)] [True, True, True, True, True, ([(1, .cells [.i 0, .nils, .nils, .i 0, .i 0, .i 0, .i 0, .i 0] 54), (0, .cells (mm W (px xs ((s + 1) * 4294967296 + p) 255 ((q - p) - 1) 0) (py ys ((s + 1) * 4294967296 + p) 255 ((q - p) - 1) 0) ++ [.i s, .i b, .i l, .i p, .i q]) 54)] : Mem) = [(1, .cells [.i 0, .nils, .nils, .i 0, .i 0, .i 0, .i 0, .i 0] 54), (0, .cells (mm W (px xs ((s + 1) * 4294967296 + p) 255 ((q - p) - 1) 0) (py ys ((s + 1) * 4294967296 + p) 255 ((q - p) - 1) 0) ++ [.i s, .i b, .i l, .i p, .i q]) 54)], (2 : Nat) = 2] ⟨trivial, trivial, trivial, trivial, trivial, rfl, rfl, trivial⟩ ?_
  refine sen ?_
  refine an ?_
  refine rg [] 3 ⟨[(2, .p 1), (1, .p 0)], [(1, .cells [.i 0, .nils, .nils, .i 0, .i 0, .i 0, .i 0, .i 0] 54), (0, .cells (mm W (px xs ((s + 1) * 4294967296 + p) 255 ((q - p) - 1) 0) (py ys ((s + 1) * 4294967296 + p) 255 ((q - p) - 1) 0) ++ [.i s, .i b, .i l, .i 0, .i 0]) 54)], 2⟩ [True] ⟨trivial, trivial⟩ ?_
  refine rg [] 2 ⟨[(2, .p 1)], [(1, .cells (mm W (px xs ((s + 1) * 4294967296 + p) 255 ((q - p) - 1) 0) (py ys ((s + 1) * 4294967296 + p) 255 ((q - p) - 1) 0) ++ [.i s, .i b, .i l, .i 0, .i 0]) 54)], 2⟩ [True, True] ⟨trivial, trivial, trivial⟩ ?_
  refine xw_ret ?_
  exact bk_ret (.agg (mm W (px xs ((s + 1) * 4294967296 + p) 255 ((q - p) - 1) 0) (py ys ((s + 1) * 4294967296 + p) 255 ((q - p) - 1) 0) ++ [.i s, .i b, .i l, .i 0, .i 0])) (.agg (mm W (px xs ((s + 1) * 4294967296 + p) 255 ((q - p) - 1) 0) (py ys ((s + 1) * 4294967296 + p) 255 ((q - p) - 1) 0) ++ [.i s, .i b, .i l, .i 0, .i 0])) (.agg (mm W (rtx xs s p q) (rty ys s p q) ++ [.i s, .i b, .i l, .i 0, .i 0])) (by kernel_rfl) (by kernel_rfl) (wkd [(W : Int) = W, (false = true → false = true), (m64 (px xs ((s + 1) * 4294967296 + p) 255 ((q - p) - 1) 0)) = (m64 (rtx xs s p q)), (false = true → false = true), (m64 (py ys ((s + 1) * 4294967296 + p) 255 ((q - p) - 1) 0)) = (m64 (rty ys s p q)), (s : Int) = s, (b : Int) = b, (l : Int) = l, (0 : Int) = 0, (0 : Int) = 0] (by kernel_rfl) ⟨rfl, id, (by first | rfl | omega | exact congrArg _ (rtx_p (by omega)) | exact congrArg _ (rty_p (by omega)) | exact congrArg _ (rtx_0 (by omega)) | exact congrArg _ (rty_0 (by omega))), id, (by first | rfl | omega | exact congrArg _ (rtx_p (by omega)) | exact congrArg _ (rty_p (by omega)) | exact congrArg _ (rtx_0 (by omega)) | exact congrArg _ (rty_0 (by omega))), rfl, rfl, rfl, rfl, rfl, trivial⟩) rfl
 ·
  replace h0 : ¬ (0 < (q - p)) := of_decide_eq_false h0
  refine xw_skip ?_
  refine an ?_
  refine rg [] 3 ⟨[(2, .p 1), (1, .p 0)], [(1, .cells [.i 0, .nils, .nils, .i 0, .i 0, .i 0, .i 0, .i 0] 54), (0, .cells (mm W xs ys ++ [.i s, .i b, .i l, .i 0, .i 0]) 54)], 2⟩ [True] ⟨trivial, trivial⟩ ?_
  refine rg [] 2 ⟨[(2, .p 1)], [(1, .cells (mm W xs ys ++ [.i s, .i b, .i l, .i 0, .i 0]) 54)], 2⟩ [True, True] ⟨trivial, trivial, trivial⟩ ?_
  refine xw_ret ?_
  exact bk_ret (.agg (mm W xs ys ++ [.i s, .i b, .i l, .i 0, .i 0])) (.agg (mm W xs ys ++ [.i s, .i b, .i l, .i 0, .i 0])) (.agg (mm W (rtx xs s p q) (rty ys s p q) ++ [.i s, .i b, .i l, .i 0, .i 0])) (by kernel_rfl) (by kernel_rfl) (wkd [(W : Int) = W, (false = true → false = true), (m64 xs) = (m64 (rtx xs s p q)), (false = true → false = true), (m64 ys) = (m64 (rty ys s p q)), (s : Int) = s, (b : Int) = b, (l : Int) = l, (0 : Int) = 0, (0 : Int) = 0] (by kernel_rfl) ⟨rfl, id, (by first | rfl | omega | exact congrArg _ (rtx_p (by omega)) | exact congrArg _ (rty_p (by omega)) | exact congrArg _ (rtx_0 (by omega)) | exact congrArg _ (rty_0 (by omega))), id, (by first | rfl | omega | exact congrArg _ (rtx_p (by omega)) | exact congrArg _ (rty_p (by omega)) | exact congrArg _ (rtx_0 (by omega)) | exact congrArg _ (rty_0 (by omega))), rfl, rfl, rfl, rfl, rfl, trivial⟩) rfl

set_option maxHeartbeats 8000000 in
theorem bmake (W : Int) (xs : List Int) (ys : List Int) (s : Int) (b : Int) (l : Int) (p : Int) (q : Int) (n : Int) (t : Int) (f : Int) (m : Int) (hp0 : 16 ≤ W ∧ W ≤ 4096) (hp1 : (xs.length : Int) = W) (hp2 : (ys.length : Int) = W) (hp3 : U64s xs) (hp4 : U64s ys) (hp5 : (s = 0 ∨ s = 1) ∧ 0 ≤ b ∧ b ≤ l ∧ l ≤ 4096) (hp6 : l = W) (hp7 : 0 ≤ p ∧ p ≤ q ∧ q ≤ b) (hp8 : -9223372036854775808 ≤ t ∧ t ≤ 9223372036854775807) (hp9 : -9223372036854775808 ≤ f ∧ f ≤ 9223372036854775807) (hp10 : 0 ≤ m ∧ m ≤ 18446744073709551615) (hp11 : -9223372036854775808 ≤ n ∧ n ≤ 9223372036854775807) : Pub Try.prog 28 [.agg (mm W xs ys ++ [.int .i64 s, .int .i64 b, .int .i64 l, .int .i64 p, .int .i64 q]), .agg [.int .i64 t, .int .i64 f, .int .u64 m], .int .i64 n] (fun rv => ((¬ (((t = 255 ∧ 0 ≤ f ∧ f ≤ 65535 ∧ m = 0) ∨ (1 ≤ t ∧ t ≤ 200 ∧ 0 ≤ f ∧ f ≤ 16 ∧ m < 2 ^ (Int.toNat f) ∧ m < 65536)) ∧ t ≠ 255)) ∧ rv = .tup [.agg (mm W xs ys ++ [.int .i64 s, .int .i64 b, .int .i64 l, .int .i64 p, .int .i64 q]), .int .u64 0, .int .i64 1]) ∨ (((t = 255 ∧ 0 ≤ f ∧ f ≤ 65535 ∧ m = 0) ∨ (1 ≤ t ∧ t ≤ 200 ∧ 0 ≤ f ∧ f ≤ 16 ∧ m < 2 ^ (Int.toNat f) ∧ m < 65536)) ∧ (t ≠ 255) ∧ (f + 2 ≤ q - p) ∧ rv = .tup [.agg (mm W (px xs ((s + 1) * 4294967296 + p) t f m) (py ys ((s + 1) * 4294967296 + p) t f m) ++ [.int .i64 s, .int .i64 b, .int .i64 l, .int .i64 (p + (f + 2)), .int .i64 q]), .int .u64 ((s + 1) * 4294967296 + p), .int .i64 0]) ∨ (((t = 255 ∧ 0 ≤ f ∧ f ≤ 65535 ∧ m = 0) ∨ (1 ≤ t ∧ t ≤ 200 ∧ 0 ≤ f ∧ f ≤ 16 ∧ m < 2 ^ (Int.toNat f) ∧ m < 65536)) ∧ (t ≠ 255) ∧ (q - p < f + 2) ∧ (n < 2 * (f + 2)) ∧ (f + 2 ≤ l - b) ∧ rv = .tup [.agg (mm W (px xs ((s + 1) * 4294967296 + b) t f m) (py ys ((s + 1) * 4294967296 + b) t f m) ++ [.int .i64 s, .int .i64 (b + (f + 2)), .int .i64 l, .int .i64 p, .int .i64 q]), .int .u64 ((s + 1) * 4294967296 + b), .int .i64 0]) ∨ (((t = 255 ∧ 0 ≤ f ∧ f ≤ 65535 ∧ m = 0) ∨ (1 ≤ t ∧ t ≤ 200 ∧ 0 ≤ f ∧ f ≤ 16 ∧ m < 2 ^ (Int.toNat f) ∧ m < 65536)) ∧ (t ≠ 255) ∧ (q - p < f + 2) ∧ (n < 2 * (f + 2)) ∧ (l - b < f + 2) ∧ rv = .tup [.agg (mm W xs ys ++ [.int .i64 s, .int .i64 b, .int .i64 l, .int .i64 p, .int .i64 q]), .int .u64 0, .int .i64 4]) ∨ (((t = 255 ∧ 0 ≤ f ∧ f ≤ 65535 ∧ m = 0) ∨ (1 ≤ t ∧ t ≤ 200 ∧ 0 ≤ f ∧ f ≤ 16 ∧ m < 2 ^ (Int.toNat f) ∧ m < 65536)) ∧ (t ≠ 255) ∧ (q - p < f + 2) ∧ (2 * (f + 2) ≤ n) ∧ (l - b < f + 2) ∧ rv = .tup [.agg (mm W (rtx xs s p q) (rty ys s p q) ++ [.int .i64 s, .int .i64 b, .int .i64 l, .int .i64 0, .int .i64 0]), .int .u64 0, .int .i64 4]) ∨ (((t = 255 ∧ 0 ≤ f ∧ f ≤ 65535 ∧ m = 0) ∨ (1 ≤ t ∧ t ≤ 200 ∧ 0 ≤ f ∧ f ≤ 16 ∧ m < 2 ^ (Int.toNat f) ∧ m < 65536)) ∧ (t ≠ 255) ∧ (q - p < f + 2) ∧ (2 * (f + 2) ≤ n) ∧ (f + 2 ≤ l - b) ∧ rv = .tup [.agg (mm W (px (rtx xs s p q) ((s + 1) * 4294967296 + b) t f m) (py (rty ys s p q) ((s + 1) * 4294967296 + b) t f m) ++ [.int .i64 s, .int .i64 (b + (min n (l - b))), .int .i64 l, .int .i64 (b + (f + 2)), .int .i64 (b + (min n (l - b)))]), .int .u64 ((s + 1) * 4294967296 + b), .int .i64 0])) := by
 refine pub_of TT_ok Try.func28 rfl (by decide) (Nat.le_of_ble_eq_true (by kernel_rfl)) (by kernel_rfl) ?_
 refine rg [] 5 ⟨[(8, .i 0), (7, .u 0), (6, .p 2), (4, .p 1), (3, .p 0), (2, .i n)], [(2, .cells [.i 0, .nils, .nils, .i 0, .i 0, .i 0, .i 0, .i 0] 54), (1, .cells [.i t, .i f, .u m] 35), (0, .cells (mm W xs ys ++ [.i s, .i b, .i l, .i p, .i q]) 54)], 3⟩ [] trivial ?_
 refine xw_scope_u 0 2 rfl ?_
 refine xw_seq ?_
 refine xw_seq ?_
 refine reg ?_
 refine rk [] 1 0 ⟨[(18, .agg [.i t, .i f, .u m]), (8, .i 0), (7, .u 0), (6, .p 2), (4, .p 1), (3, .p 0), (2, .i n)], [(2, .cells [.i 0, .nils, .nils, .i 0, .i 0, .i 0, .i 0, .i 0] 54), (1, .cells [.i t, .i f, .u m] 35), (0, .cells (mm W xs ys ++ [.i s, .i b, .i l, .i p, .i q]) 54)], 3⟩ [True] ⟨trivial, trivial⟩ ?_
 by_cases h0 : (t = 255 ∧ 0 ≤ f ∧ f ≤ 65535 ∧ m = 0) ∨ (1 ≤ t ∧ t ≤ 200 ∧ 0 ≤ f ∧ f ≤ 16 ∧ m < 2 ^ (Int.toNat f) ∧ m < 65536)
 ·
  refine pc (hright_1 t f m ‹_› ‹_› ‹_› ‹_›) ?_
  refine rk [(2, .f), (6, .bool (t == 255))] 6 2 ⟨[(25, .bool (t == 255)), (8, .i 0), (7, .u 0), (6, .p 2), (4, .p 1), (3, .p 0), (2, .i n)], [(2, .cells [.i 0, .nils, .nils, .i 0, .i 0, .i 0, .i 0, .i 0] 54), (1, .cells [.i t, .i f, .u m] 35), (0, .cells (mm W xs ys ++ [.i s, .i b, .i l, .i p, .i q]) 54)], 3⟩ [(0 != 0) = false, True, (t == 255) = (t == 255), True] ⟨bne_eq_false_iff_eq.2 (by omega), trivial, rfl, trivial, trivial⟩ ?_
  refine en ?_
  refine an ?_
  refine xw_cond (b := (t == 255)) (by kernel_rfl) (fun h1 => ?_) (fun h1 => ?_)
  ·
   replace h1 : t = 255 := eq_of_beq h1
   refine rg [] 4 ⟨[(8, .i 1), (7, .u 0), (6, .p 2), (4, .p 1), (3, .p 0), (2, .i n)], [(2, .cells (mm W xs ys ++ [.i s, .i b, .i l, .i p, .i q]) 54), (1, .cells [.i t, .i f, .u m] 35), (0, .cells (mm W xs ys ++ [.i s, .i b, .i l, .i p, .i q]) 54)], 3⟩ [True, True] ⟨trivial, trivial, trivial⟩ ?_
   refine xw_ret ?_
   refine an_ret ?_
   refine juu_ret ?_
   exact bs (.tup [.agg (mm W xs ys ++ [.i s, .i b, .i l, .i p, .i q]), .u 0, .i 1]) (Or.inl <| ⟨(by first | rfl | omega), rfl⟩)
  ·
   replace h1 : t ≠ 255 := ne_of_beq_false h1
   refine xw_skip ?_
   refine an ?_
   refine xw_seq ?_
   refine reg ?_
   refine rk [] 1 0 ⟨[(27, .agg [.i t, .i f, .u m]), (8, .i 0), (7, .u 0), (6, .p 2), (4, .p 1), (3, .p 0), (2, .i n)], [(2, .cells [.i 0, .nils, .nils, .i 0, .i 0, .i 0, .i 0, .i 0] 54), (1, .cells [.i t, .i f, .u m] 35), (0, .cells (mm W xs ys ++ [.i s, .i b, .i l, .i p, .i q]) 54)], 3⟩ [True] ⟨trivial, trivial⟩ ?_
   refine pc (hwords_2 t f m ‹_› ‹_› ‹_› (by omega) (by omega)) ?_
   refine rk [] 1 2 ⟨[(9, .i (f + 2)), (8, .i 0), (7, .u 0), (6, .p 2), (4, .p 1), (3, .p 0), (2, .i n)], [(2, .cells [.i 0, .nils, .nils, .i 0, .i 0, .i 0, .i 0, .i 0] 54), (1, .cells [.i t, .i f, .u m] 35), (0, .cells (mm W xs ys ++ [.i s, .i b, .i l, .i p, .i q]) 54)], 3⟩ [] trivial ?_
   refine en ?_
   refine an ?_
   refine rg [] 2 ⟨[(10, .fn 59 [] [.p 0, .p 1]), (9, .i (f + 2)), (8, .i 0), (7, .u 0), (6, .p 2), (3, .p 0), (2, .i n)], [(2, .cells [.i 0, .nils, .nils, .i 0, .i 0, .i 0, .i 0, .i 0] 54), (1, .cells [.i t, .i f, .u m] 35), (0, .cells (mm W xs ys ++ [.i s, .i b, .i l, .i p, .i q]) 54)], 3⟩ [] trivial ?_
   refine xw_seq ?_
   refine xw_label ?_
   refine an ?_
   refine xw_seq ?_
   refine xw_block ?_
   refine xw_seq ?_
   refine xw_block ?_
   refine xw_seq ?_
   refine xw_block ?_
   refine xw_seq ?_
   refine xw_block ?_
   refine xw_seq ?_
   refine xw_seq ?_
   refine xw_seq ?_
   refine reg ?_
   refine rk [] 2 0 ⟨[(32, .agg (mm W xs ys ++ [.i s, .i b, .i l, .i p, .i q])), (31, .i (f + 2)), (10, .fn 59 [] [.p 0, .p 1]), (9, .i (f + 2)), (8, .i 0), (7, .u 0), (6, .p 2), (3, .p 0), (2, .i n)], [(2, .cells [.i 0, .nils, .nils, .i 0, .i 0, .i 0, .i 0, .i 0] 54), (1, .cells [.i t, .i f, .u m] 35), (0, .cells (mm W xs ys ++ [.i s, .i b, .i l, .i p, .i q]) 54)], 3⟩ [True] ⟨trivial, trivial⟩ ?_
   refine pc (gap W xs ys s b l p q (by omega)) ?_
   refine rk [(3, .bool (decide ((f + 2) ≤ (q - p))))] 2 3 ⟨[(30, .bool (decide ((f + 2) ≤ (q - p)))), (10, .fn 59 [] [.p 0, .p 1]), (9, .i (f + 2)), (8, .i 0), (7, .u 0), (6, .p 2), (3, .p 0), (2, .i n)], [(2, .cells [.i 0, .nils, .nils, .i 0, .i 0, .i 0, .i 0, .i 0] 54), (1, .cells [.i t, .i f, .u m] 35), (0, .cells (mm W xs ys ++ [.i s, .i b, .i l, .i p, .i q]) 54)], 3⟩ [(decide ((f + 2) ≤ (q - p))) = (decide ((f + 2) ≤ (q - p)))] ⟨rfl, trivial⟩ ?_
   refine en ?_
   refine an ?_
   refine xw_cond (b := (decide ((f + 2) ≤ (q - p)))) (by kernel_rfl) (fun h2 => ?_) (fun h2 => ?_)
   ·
    replace h2 : (f + 2) ≤ (q - p) := of_decide_eq_true h2
    refine xw_exit ?_
    refine an_exit ?_
    refine an_exit ?_
    refine ib_same ?_
    refine an ?_
    refine xw_seq ?_
    refine xw_seq ?_
    refine reg ?_
    refine rk [] 6 0 ⟨[(51, .i p), (48, .i s), (10, .fn 59 [] [.p 0, .p 1]), (9, .i (f + 2)), (8, .i 0), (7, .u 0), (6, .p 2), (3, .p 0), (2, .i n)], [(2, .cells [.i 0, .nils, .nils, .i 0, .i 0, .i 0, .i 0, .i 0] 54), (1, .cells [.i t, .i f, .u m] 35), (0, .cells (mm W xs ys ++ [.i s, .i b, .i l, .i p, .i q]) 54)], 3⟩ [True, True] ⟨trivial, trivial, trivial⟩ ?_
    refine pc (addr_1 s p (by omega)) ?_
    refine rk [] 1 7 ⟨[(11, .u ((s + 1) * 4294967296 + p)), (10, .fn 59 [] [.p 0, .p 1]), (9, .i (f + 2)), (8, .i 0), (7, .u 0), (6, .p 2), (3, .p 0), (2, .i n)], [(2, .cells [.i 0, .nils, .nils, .i 0, .i 0, .i 0, .i 0, .i 0] 54), (1, .cells [.i t, .i f, .u m] 35), (0, .cells (mm W xs ys ++ [.i s, .i b, .i l, .i p, .i q]) 54)], 3⟩ [] trivial ?_
    refine en ?_
    refine an ?_
    refine rg [(4, .i (p + (f + 2)))] 8 ⟨[(11, .u ((s + 1) * 4294967296 + p)), (10, .fn 59 [] [.p 0, .p 1]), (9, .i (f + 2)), (8, .i 0), (7, .u 0), (6, .p 2), (3, .p 0), (2, .i n)], [(2, .cells [.i 0, .nils, .nils, .i 0, .i 0, .i 0, .i 0, .i 0] 54), (1, .cells [.i t, .i f, .u m] 35), (0, .cells (mm W xs ys ++ [.i s, .i b, .i l, .i (p + (f + 2)), .i q]) 54)], 3⟩ [True, IntKind.i64.wrap (p + (f + 2)) = (p + (f + 2)), True] ⟨trivial, i64_eq (by omega) (by omega), trivial, trivial⟩ ?_
    refine xw_seq ?_
    refine reg ?_
    refine rk [] 2 0 ⟨[(61, .u ((s + 1) * 4294967296 + p)), (60, .fn 59 [] [.p 0, .p 1]), (10, .fn 59 [] [.p 0, .p 1]), (9, .i (f + 2)), (8, .i 0), (7, .u 0), (6, .p 2), (3, .p 0), (2, .i n)], [(2, .cells [.i 0, .nils, .nils, .i 0, .i 0, .i 0, .i 0, .i 0] 54), (1, .cells [.i t, .i f, .u m] 35), (0, .cells (mm W xs ys ++ [.i s, .i b, .i l, .i (p + (f + 2)), .i q]) 54)], 3⟩ [] trivial ?_
    refine callx (f := 59) (args := [.u ((s + 1) * 4294967296 + p), .p 0, .p 1]) (d := (some 62)) (by kernel_rfl) (xcall_of TT_ok Try.func59 rfl (by decide) (Nat.le_of_ble_eq_true (by kernel_rfl)) ?_)
    refine rg [] 3 ⟨[(6, .i 0), (5, .u 0), (4, .p 3), (0, .u ((s + 1) * 4294967296 + p)), (1, .p 0), (2, .p 1)], [(3, .cells [.i 0, .nils, .nils, .i 0, .i 0, .i 0, .i 0, .i 0] 54), (2, .cells [.i 0, .nils, .nils, .i 0, .i 0, .i 0, .i 0, .i 0] 54), (1, .cells [.i t, .i f, .u m] 35), (0, .cells (mm W xs ys ++ [.i s, .i b, .i l, .i (p + (f + 2)), .i q]) 54)], 4⟩ [] trivial ?_
    refine xw_seq ?_
    refine reg ?_
    refine rk [] 4 0 ⟨[(11, .agg [.i t, .i f, .u m]), (10, .u ((s + 1) * 4294967296 + p)), (9, .agg (mm W xs ys)), (6, .i 0), (5, .u 0), (4, .p 3), (0, .u ((s + 1) * 4294967296 + p)), (1, .p 0)], [(3, .cells [.i 0, .nils, .nils, .i 0, .i 0, .i 0, .i 0, .i 0] 54), (2, .cells [.i 0, .nils, .nils, .i 0, .i 0, .i 0, .i 0, .i 0] 54), (1, .cells [.i t, .i f, .u m] 35), (0, .cells (mm W xs ys ++ [.i s, .i b, .i l, .i (p + (f + 2)), .i q]) 54)], 4⟩ [True, True] ⟨trivial, trivial, trivial⟩ ?_
    refine pc (oput_1 W xs ys ((s + 1) * 4294967296 + p) t f m ‹_› ‹_› ‹_› ‹_› ‹_› (by omega) ‹_› ‹_› ‹_› ‹_› (by omega) (by omega)) ?_
    obtain ⟨h3, h4, h5, h6, h7, h8⟩ := put_ok W xs ys ((s + 1) * 4294967296 + p) t f m ‹_› ‹_› ‹_› ‹_› (by omega) (by omega) (by omega) (by first | omega | decide) (by omega)
    refine rk [] 5 5 ⟨[(6, .i 0), (5, .u 0), (4, .p 3), (0, .u ((s + 1) * 4294967296 + p)), (1, .p 0)], [(3, .cells [.i 0, .nils, .nils, .i 0, .i 0, .i 0, .i 0, .i 0] 54), (2, .cells [.i 0, .nils, .nils, .i 0, .i 0, .i 0, .i 0, .i 0] 54), (1, .cells [.i t, .i f, .u m] 35), (0, .cells (mm W (px xs ((s + 1) * 4294967296 + p) t f m) (py ys ((s + 1) * 4294967296 + p) t f m) ++ [.i s, .i b, .i l, .i (p + (f + 2)), .i q]) 54)], 4⟩ [True] ⟨trivial, trivial⟩ ?_
    refine en ?_
    refine an ?_
    refine rg [] 5 ⟨[(6, .i 0), (5, .u ((s + 1) * 4294967296 + p)), (4, .p 3)], [(3, .cells (mm W (px xs ((s + 1) * 4294967296 + p) t f m) (py ys ((s + 1) * 4294967296 + p) t f m) ++ [.i s, .i b, .i l, .i (p + (f + 2)), .i q]) 54), (2, .cells [.i 0, .nils, .nils, .i 0, .i 0, .i 0, .i 0, .i 0] 54), (1, .cells [.i t, .i f, .u m] 35), (0, .cells (mm W (px xs ((s + 1) * 4294967296 + p) t f m) (py ys ((s + 1) * 4294967296 + p) t f m) ++ [.i s, .i b, .i l, .i (p + (f + 2)), .i q]) 54)], 4⟩ [True, True] ⟨trivial, trivial, trivial⟩ ?_
    refine xw_ret ?_
    refine ⟨.tup [.agg (mm W (px xs ((s + 1) * 4294967296 + p) t f m) (py ys ((s + 1) * 4294967296 + p) t f m) ++ [.i s, .i b, .i l, .i (p + (f + 2)), .i q]), .u ((s + 1) * 4294967296 + p), .i 0], by kernel_rfl, ?_⟩
    show XOi _ _ _ _ _ _ ⟨[(62, .tup [.agg (mm W (px xs ((s + 1) * 4294967296 + p) t f m) (py ys ((s + 1) * 4294967296 + p) t f m) ++ [.int .i64 s, .int .i64 b, .int .i64 l, .int .i64 (p + (f + 2)), .int .i64 q]), .int .u64 ((s + 1) * 4294967296 + p), .int .i64 0]), (61, .int .u64 ((s + 1) * 4294967296 + p)), (60, .fn 59 [] [.loc 0 0, .loc 1 0]), (10, .fn 59 [] [.loc 0 0, .loc 1 0]), (9, .int .i64 (f + 2)), (8, .int .i64 0), (7, .int .u64 0), (6, .loc 2 0), (3, .loc 0 0), (2, .int .i64 n)], [(3, .cells (mm W (px xs ((s + 1) * 4294967296 + p) t f m) (py ys ((s + 1) * 4294967296 + p) t f m) ++ [.int .i64 s, .int .i64 b, .int .i64 l, .int .i64 (p + (f + 2)), .int .i64 q]) 54), (2, .cells [.int .i64 0, .nils, .nils, .int .i64 0, .int .i64 0, .int .i64 0, .int .i64 0, .int .i64 0] 54), (1, .cells [.int .i64 t, .int .i64 f, .int .u64 m] 35), (0, .cells (mm W (px xs ((s + 1) * 4294967296 + p) t f m) (py ys ((s + 1) * 4294967296 + p) t f m) ++ [.int .i64 s, .int .i64 b, .int .i64 l, .int .i64 (p + (f + 2)), .int .i64 q]) 54)], 4⟩
    refine rk [] 6 3 ⟨[(8, .i 0), (7, .u ((s + 1) * 4294967296 + p)), (10, .fn 59 [] [.p 0, .p 1]), (9, .i (f + 2)), (6, .p 2), (3, .p 0), (2, .i n)], [(2, .cells (mm W (px xs ((s + 1) * 4294967296 + p) t f m) (py ys ((s + 1) * 4294967296 + p) t f m) ++ [.i s, .i b, .i l, .i (p + (f + 2)), .i q]) 54), (1, .cells [.i t, .i f, .u m] 35), (0, .cells (mm W (px xs ((s + 1) * 4294967296 + p) t f m) (py ys ((s + 1) * 4294967296 + p) t f m) ++ [.i s, .i b, .i l, .i (p + (f + 2)), .i q]) 54)], 4⟩ [True] ⟨trivial, trivial⟩ ?_
    refine en ?_
    refine an ?_
    refine xw_ret ?_
    refine an_ret ?_
    refine ib_ret ?_
    refine an_ret ?_
    refine ib_ret ?_
    refine an_ret ?_
    refine ib_ret ?_
    refine an_ret ?_
    refine juu_ret ?_
    exact bs (.tup [.agg (mm W (px xs ((s + 1) * 4294967296 + p) t f m) (py ys ((s + 1) * 4294967296 + p) t f m) ++ [.i s, .i b, .i l, .i (p + (f + 2)), .i q]), .u ((s + 1) * 4294967296 + p), .i 0]) (Or.inr <| Or.inl <| ⟨(by first | rfl | omega), (by omega), (by omega), rfl⟩)
   ·
    replace h2 : ¬ ((f + 2) ≤ (q - p)) := of_decide_eq_false h2
    refine xw_skip ?_
    refine an ?_
    refine xw_seq ?_
    refine rg [(1, .i (2 * (f + 2))), (3, .bool (decide (n < (2 * (f + 2)))))] 5 ⟨[(35, .bool (decide (n < (2 * (f + 2))))), (10, .fn 59 [] [.p 0, .p 1]), (9, .i (f + 2)), (8, .i 0), (7, .u 0), (6, .p 2), (3, .p 0), (2, .i n)], [(2, .cells [.i 0, .nils, .nils, .i 0, .i 0, .i 0, .i 0, .i 0] 54), (1, .cells [.i t, .i f, .u m] 35), (0, .cells (mm W xs ys ++ [.i s, .i b, .i l, .i p, .i q]) 54)], 3⟩ [IntKind.i64.wrap (2 * (f + 2)) = (2 * (f + 2)), (decide (n < (2 * (f + 2)))) = (decide (n < (2 * (f + 2))))] ⟨i64_eq (by omega) (by omega), rfl, trivial⟩ ?_
    refine xw_cond (b := (decide (n < (2 * (f + 2))))) (by kernel_rfl) (fun h3 => ?_) (fun h3 => ?_)
    ·
     replace h3 : n < (2 * (f + 2)) := of_decide_eq_true h3
     refine xw_exit ?_
     refine an_exit ?_
     refine an_exit ?_
     refine ib_exit (by kernel_rfl) ?_
     refine an_exit ?_
     refine ib_same ?_
     refine an ?_
     refine xw_seq ?_
     refine reg ?_
     refine rk [] 3 0 ⟨[(69, .i (f + 2)), (68, .agg [.i s, .i b, .i l]), (10, .fn 59 [] [.p 0, .p 1]), (9, .i (f + 2)), (8, .i 0), (7, .u 0), (6, .p 2), (3, .p 0), (2, .i n)], [(2, .cells [.i 0, .nils, .nils, .i 0, .i 0, .i 0, .i 0, .i 0] 54), (1, .cells [.i t, .i f, .u m] 35), (0, .cells (mm W xs ys ++ [.i s, .i b, .i l, .i p, .i q]) 54)], 3⟩ [True] ⟨trivial, trivial⟩ ?_
     by_cases h4 : (f + 2) ≤ l - b
     ·
      refine pc (take_1 s b l (f + 2) ‹_› (by omega) ‹_›) ?_
      refine rk [] 8 4 ⟨[(14, .i 0), (13, .u ((s + 1) * 4294967296 + b)), (12, .p 3), (10, .fn 59 [] [.p 0, .p 1]), (9, .i (f + 2)), (8, .i 0), (7, .u 0), (6, .p 2), (3, .p 0), (2, .i n)], [(3, .cells [.i s, .i (b + (f + 2)), .i l] 50), (2, .cells [.i 0, .nils, .nils, .i 0, .i 0, .i 0, .i 0, .i 0] 54), (1, .cells [.i t, .i f, .u m] 35), (0, .cells (mm W xs ys ++ [.i s, .i b, .i l, .i p, .i q]) 54)], 4⟩ [True] ⟨trivial, trivial⟩ ?_
      refine en ?_
      refine an ?_
      refine rg [(1, .t)] 2 ⟨[(75, .t), (13, .u ((s + 1) * 4294967296 + b)), (12, .p 3), (10, .fn 59 [] [.p 0, .p 1]), (9, .i (f + 2)), (8, .i 0), (7, .u 0), (6, .p 2), (3, .p 0), (2, .i n)], [(3, .cells [.i s, .i (b + (f + 2)), .i l] 50), (2, .cells [.i 0, .nils, .nils, .i 0, .i 0, .i 0, .i 0, .i 0] 54), (1, .cells [.i t, .i f, .u m] 35), (0, .cells (mm W xs ys ++ [.i s, .i b, .i l, .i p, .i q]) 54)], 4⟩ [(0 == 0) = true] ⟨beq_iff_eq.2 (by omega), trivial⟩ ?_
      refine ct ?_
      refine rg [] 3 ⟨[(13, .u ((s + 1) * 4294967296 + b)), (10, .fn 59 [] [.p 0, .p 1]), (9, .i (f + 2)), (8, .i 0), (7, .u 0), (6, .p 2), (3, .p 0), (2, .i n)], [(2, .cells [.i 0, .nils, .nils, .i 0, .i 0, .i 0, .i 0, .i 0] 54), (1, .cells [.i t, .i f, .u m] 35), (0, .cells (mm W xs ys ++ [.i s, .i (b + (f + 2)), .i l, .i p, .i q]) 54)], 4⟩ [True, True] ⟨trivial, trivial, trivial⟩ ?_
      refine xw_seq ?_
      refine reg ?_
      refine rk [] 2 0 ⟨[(79, .u ((s + 1) * 4294967296 + b)), (78, .fn 59 [] [.p 0, .p 1]), (10, .fn 59 [] [.p 0, .p 1]), (9, .i (f + 2)), (8, .i 0), (7, .u 0), (6, .p 2), (3, .p 0), (2, .i n)], [(2, .cells [.i 0, .nils, .nils, .i 0, .i 0, .i 0, .i 0, .i 0] 54), (1, .cells [.i t, .i f, .u m] 35), (0, .cells (mm W xs ys ++ [.i s, .i (b + (f + 2)), .i l, .i p, .i q]) 54)], 4⟩ [] trivial ?_
      refine callx (f := 59) (args := [.u ((s + 1) * 4294967296 + b), .p 0, .p 1]) (d := (some 80)) (by kernel_rfl) (xcall_of TT_ok Try.func59 rfl (by decide) (Nat.le_of_ble_eq_true (by kernel_rfl)) ?_)
      refine rg [] 3 ⟨[(6, .i 0), (5, .u 0), (4, .p 4), (0, .u ((s + 1) * 4294967296 + b)), (1, .p 0), (2, .p 1)], [(4, .cells [.i 0, .nils, .nils, .i 0, .i 0, .i 0, .i 0, .i 0] 54), (2, .cells [.i 0, .nils, .nils, .i 0, .i 0, .i 0, .i 0, .i 0] 54), (1, .cells [.i t, .i f, .u m] 35), (0, .cells (mm W xs ys ++ [.i s, .i (b + (f + 2)), .i l, .i p, .i q]) 54)], 5⟩ [] trivial ?_
      refine xw_seq ?_
      refine reg ?_
      refine rk [] 4 0 ⟨[(11, .agg [.i t, .i f, .u m]), (10, .u ((s + 1) * 4294967296 + b)), (9, .agg (mm W xs ys)), (6, .i 0), (5, .u 0), (4, .p 4), (0, .u ((s + 1) * 4294967296 + b)), (1, .p 0)], [(4, .cells [.i 0, .nils, .nils, .i 0, .i 0, .i 0, .i 0, .i 0] 54), (2, .cells [.i 0, .nils, .nils, .i 0, .i 0, .i 0, .i 0, .i 0] 54), (1, .cells [.i t, .i f, .u m] 35), (0, .cells (mm W xs ys ++ [.i s, .i (b + (f + 2)), .i l, .i p, .i q]) 54)], 5⟩ [True, True] ⟨trivial, trivial, trivial⟩ ?_
      refine pc (oput_1 W xs ys ((s + 1) * 4294967296 + b) t f m ‹_› ‹_› ‹_› ‹_› ‹_› (by omega) ‹_› ‹_› ‹_› ‹_› (by omega) (by omega)) ?_
      obtain ⟨h5, h6, h7, h8, h9, h10⟩ := put_ok W xs ys ((s + 1) * 4294967296 + b) t f m ‹_› ‹_› ‹_› ‹_› (by omega) (by omega) (by omega) (by first | omega | decide) (by omega)
      refine rk [] 5 5 ⟨[(6, .i 0), (5, .u 0), (4, .p 4), (0, .u ((s + 1) * 4294967296 + b)), (1, .p 0)], [(4, .cells [.i 0, .nils, .nils, .i 0, .i 0, .i 0, .i 0, .i 0] 54), (2, .cells [.i 0, .nils, .nils, .i 0, .i 0, .i 0, .i 0, .i 0] 54), (1, .cells [.i t, .i f, .u m] 35), (0, .cells (mm W (px xs ((s + 1) * 4294967296 + b) t f m) (py ys ((s + 1) * 4294967296 + b) t f m) ++ [.i s, .i (b + (f + 2)), .i l, .i p, .i q]) 54)], 5⟩ [True] ⟨trivial, trivial⟩ ?_
      refine en ?_
      refine an ?_
      refine rg [] 5 ⟨[(6, .i 0), (5, .u ((s + 1) * 4294967296 + b)), (4, .p 4)], [(4, .cells (mm W (px xs ((s + 1) * 4294967296 + b) t f m) (py ys ((s + 1) * 4294967296 + b) t f m) ++ [.i s, .i (b + (f + 2)), .i l, .i p, .i q]) 54), (2, .cells [.i 0, .nils, .nils, .i 0, .i 0, .i 0, .i 0, .i 0] 54), (1, .cells [.i t, .i f, .u m] 35), (0, .cells (mm W (px xs ((s + 1) * 4294967296 + b) t f m) (py ys ((s + 1) * 4294967296 + b) t f m) ++ [.i s, .i (b + (f + 2)), .i l, .i p, .i q]) 54)], 5⟩ [True, True] ⟨trivial, trivial, trivial⟩ ?_
      refine xw_ret ?_
      refine ⟨.tup [.agg (mm W (px xs ((s + 1) * 4294967296 + b) t f m) (py ys ((s + 1) * 4294967296 + b) t f m) ++ [.i s, .i (b + (f + 2)), .i l, .i p, .i q]), .u ((s + 1) * 4294967296 + b), .i 0], by kernel_rfl, ?_⟩
      show XOi _ _ _ _ _ _ ⟨[(80, .tup [.agg (mm W (px xs ((s + 1) * 4294967296 + b) t f m) (py ys ((s + 1) * 4294967296 + b) t f m) ++ [.int .i64 s, .int .i64 (b + (f + 2)), .int .i64 l, .int .i64 p, .int .i64 q]), .int .u64 ((s + 1) * 4294967296 + b), .int .i64 0]), (79, .int .u64 ((s + 1) * 4294967296 + b)), (78, .fn 59 [] [.loc 0 0, .loc 1 0]), (10, .fn 59 [] [.loc 0 0, .loc 1 0]), (9, .int .i64 (f + 2)), (8, .int .i64 0), (7, .int .u64 0), (6, .loc 2 0), (3, .loc 0 0), (2, .int .i64 n)], [(4, .cells (mm W (px xs ((s + 1) * 4294967296 + b) t f m) (py ys ((s + 1) * 4294967296 + b) t f m) ++ [.int .i64 s, .int .i64 (b + (f + 2)), .int .i64 l, .int .i64 p, .int .i64 q]) 54), (2, .cells [.int .i64 0, .nils, .nils, .int .i64 0, .int .i64 0, .int .i64 0, .int .i64 0, .int .i64 0] 54), (1, .cells [.int .i64 t, .int .i64 f, .int .u64 m] 35), (0, .cells (mm W (px xs ((s + 1) * 4294967296 + b) t f m) (py ys ((s + 1) * 4294967296 + b) t f m) ++ [.int .i64 s, .int .i64 (b + (f + 2)), .int .i64 l, .int .i64 p, .int .i64 q]) 54)], 5⟩
      refine rk [] 6 3 ⟨[(8, .i 0), (7, .u ((s + 1) * 4294967296 + b)), (10, .fn 59 [] [.p 0, .p 1]), (9, .i (f + 2)), (6, .p 2), (3, .p 0), (2, .i n)], [(2, .cells (mm W (px xs ((s + 1) * 4294967296 + b) t f m) (py ys ((s + 1) * 4294967296 + b) t f m) ++ [.i s, .i (b + (f + 2)), .i l, .i p, .i q]) 54), (1, .cells [.i t, .i f, .u m] 35), (0, .cells (mm W (px xs ((s + 1) * 4294967296 + b) t f m) (py ys ((s + 1) * 4294967296 + b) t f m) ++ [.i s, .i (b + (f + 2)), .i l, .i p, .i q]) 54)], 5⟩ [True] ⟨trivial, trivial⟩ ?_
      refine en ?_
      refine an ?_
      refine xw_ret ?_
      refine ib_ret ?_
      refine an_ret ?_
      refine ib_ret ?_
      refine an_ret ?_
      refine juu_ret ?_
      exact bs (.tup [.agg (mm W (px xs ((s + 1) * 4294967296 + b) t f m) (py ys ((s + 1) * 4294967296 + b) t f m) ++ [.i s, .i (b + (f + 2)), .i l, .i p, .i q]), .u ((s + 1) * 4294967296 + b), .i 0]) (Or.inr <| Or.inr <| Or.inl <| ⟨(by first | rfl | omega), (by omega), (by omega), (by omega), (by omega), rfl⟩)
     ·
      refine pc (take_2 s b l (f + 2) ‹_› (by omega) (by omega)) ?_
      refine rk [] 8 4 ⟨[(14, .i 4), (13, .u 0), (12, .p 3), (10, .fn 59 [] [.p 0, .p 1]), (9, .i (f + 2)), (8, .i 0), (7, .u 0), (6, .p 2), (3, .p 0), (2, .i n)], [(3, .cells [.i s, .i b, .i l] 50), (2, .cells [.i 0, .nils, .nils, .i 0, .i 0, .i 0, .i 0, .i 0] 54), (1, .cells [.i t, .i f, .u m] 35), (0, .cells (mm W xs ys ++ [.i s, .i b, .i l, .i p, .i q]) 54)], 4⟩ [True] ⟨trivial, trivial⟩ ?_
      refine en ?_
      refine an ?_
      refine rg [(1, .f)] 2 ⟨[(75, .f), (13, .u 0), (12, .p 3), (10, .fn 59 [] [.p 0, .p 1]), (9, .i (f + 2)), (8, .i 0), (7, .u 0), (6, .p 2), (3, .p 0), (2, .i n)], [(3, .cells [.i s, .i b, .i l] 50), (2, .cells [.i 0, .nils, .nils, .i 0, .i 0, .i 0, .i 0, .i 0] 54), (1, .cells [.i t, .i f, .u m] 35), (0, .cells (mm W xs ys ++ [.i s, .i b, .i l, .i p, .i q]) 54)], 4⟩ [(4 == 0) = false] ⟨beq_eq_false_iff_ne.2 (by omega), trivial⟩ ?_
      refine cf ?_
      refine xw_skip ?_
      refine ib ?_
      refine an ?_
      refine xw_seq ?_
      refine xw_seq ?_
      refine rg [(1, .i (2 * (f + 2))), (3, .f)] 4 ⟨[(87, .f), (10, .fn 59 [] [.p 0, .p 1]), (9, .i (f + 2)), (8, .i 0), (7, .u 0), (6, .p 2), (3, .p 0), (2, .i n)], [(2, .cells [.i 0, .nils, .nils, .i 0, .i 0, .i 0, .i 0, .i 0] 54), (1, .cells [.i t, .i f, .u m] 35), (0, .cells (mm W xs ys ++ [.i s, .i b, .i l, .i p, .i q]) 54)], 4⟩ [IntKind.i64.wrap (2 * (f + 2)) = (2 * (f + 2)), (decide ((2 * (f + 2)) ≤ n)) = false] ⟨i64_eq (by omega) (by omega), decide_eq_false (by omega), trivial⟩ ?_
      refine cf ?_
      refine xw_skip ?_
      refine an ?_
      refine rg [] 4 ⟨[(8, .i 4), (7, .u 0), (10, .fn 59 [] [.p 0, .p 1]), (9, .i (f + 2)), (6, .p 2), (3, .p 0), (2, .i n)], [(2, .cells (mm W xs ys ++ [.i s, .i b, .i l, .i p, .i q]) 54), (1, .cells [.i t, .i f, .u m] 35), (0, .cells (mm W xs ys ++ [.i s, .i b, .i l, .i p, .i q]) 54)], 4⟩ [True, True] ⟨trivial, trivial, trivial⟩ ?_
      refine xw_ret ?_
      refine an_ret ?_
      refine ib_ret ?_
      refine an_ret ?_
      refine juu_ret ?_
      exact bs (.tup [.agg (mm W xs ys ++ [.i s, .i b, .i l, .i p, .i q]), .u 0, .i 4]) (Or.inr <| Or.inr <| Or.inr <| Or.inl <| ⟨(by first | rfl | omega), (by omega), (by omega), (by omega), (by omega), rfl⟩)
    ·
     replace h3 : ¬ (n < (2 * (f + 2))) := of_decide_eq_false h3
     refine xw_skip ?_
     refine an ?_
     refine xw_seq ?_
     refine reg ?_
     refine rk [] 2 0 ⟨[(42, .agg [.i s, .i b, .i l]), (10, .fn 59 [] [.p 0, .p 1]), (9, .i (f + 2)), (8, .i 0), (7, .u 0), (6, .p 2), (3, .p 0), (2, .i n)], [(2, .cells [.i 0, .nils, .nils, .i 0, .i 0, .i 0, .i 0, .i 0] 54), (1, .cells [.i t, .i f, .u m] 35), (0, .cells (mm W xs ys ++ [.i s, .i b, .i l, .i p, .i q]) 54)], 3⟩ [True] ⟨trivial, trivial⟩ ?_
     refine pc (left_1 s b l ‹_›) ?_
     refine rk [(4, .bool (decide ((l - b) < (f + 2))))] 3 3 ⟨[(40, .bool (decide ((l - b) < (f + 2)))), (10, .fn 59 [] [.p 0, .p 1]), (9, .i (f + 2)), (8, .i 0), (7, .u 0), (6, .p 2), (3, .p 0), (2, .i n)], [(2, .cells [.i 0, .nils, .nils, .i 0, .i 0, .i 0, .i 0, .i 0] 54), (1, .cells [.i t, .i f, .u m] 35), (0, .cells (mm W xs ys ++ [.i s, .i b, .i l, .i p, .i q]) 54)], 3⟩ [(decide ((l - b) < (f + 2))) = (decide ((l - b) < (f + 2)))] ⟨rfl, trivial⟩ ?_
     refine en ?_
     refine an ?_
     refine xw_cond (b := (decide ((l - b) < (f + 2)))) (by kernel_rfl) (fun h4 => ?_) (fun h4 => ?_)
     ·
      replace h4 : (l - b) < (f + 2) := of_decide_eq_true h4
      refine xw_exit ?_
      refine an_exit ?_
      refine ib_exit (by kernel_rfl) ?_
      refine an_exit ?_
      refine ib_exit (by kernel_rfl) ?_
      refine an_exit ?_
      refine ib_same ?_
      refine an ?_
      refine xw_seq ?_
      refine xw_seq ?_
      refine rg [(1, .i (2 * (f + 2))), (3, .t)] 4 ⟨[(87, .t), (10, .fn 59 [] [.p 0, .p 1]), (9, .i (f + 2)), (8, .i 0), (7, .u 0), (6, .p 2), (3, .p 0), (2, .i n)], [(2, .cells [.i 0, .nils, .nils, .i 0, .i 0, .i 0, .i 0, .i 0] 54), (1, .cells [.i t, .i f, .u m] 35), (0, .cells (mm W xs ys ++ [.i s, .i b, .i l, .i p, .i q]) 54)], 3⟩ [IntKind.i64.wrap (2 * (f + 2)) = (2 * (f + 2)), (decide ((2 * (f + 2)) ≤ n)) = true] ⟨i64_eq (by omega) (by omega), decide_eq_true (by omega), trivial⟩ ?_
      refine ct ?_
      refine reg ?_
      refine rk [] 1 0 ⟨[(88, .agg (mm W xs ys ++ [.i s, .i b, .i l, .i p, .i q])), (10, .fn 59 [] [.p 0, .p 1]), (9, .i (f + 2)), (8, .i 0), (7, .u 0), (6, .p 2), (3, .p 0), (2, .i n)], [(2, .cells [.i 0, .nils, .nils, .i 0, .i 0, .i 0, .i 0, .i 0] 54), (1, .cells [.i t, .i f, .u m] 35), (0, .cells (mm W xs ys ++ [.i s, .i b, .i l, .i p, .i q]) 54)], 3⟩ [True] ⟨trivial, trivial⟩ ?_
      refine pc (retire W xs ys s b l p q ‹_› ‹_› ‹_› ‹_› ‹_› ‹_› ‹_› ‹_›) ?_
      obtain ⟨h5, h6, h7, h8⟩ := rt_ok W xs ys s p q ‹_› ‹_› ‹_› ‹_› (by omega) (by omega)
      refine rk [] 1 2 ⟨[(10, .fn 59 [] [.p 0, .p 1]), (9, .i (f + 2)), (8, .i 0), (7, .u 0), (6, .p 2), (3, .p 0), (2, .i n)], [(2, .cells [.i 0, .nils, .nils, .i 0, .i 0, .i 0, .i 0, .i 0] 54), (1, .cells [.i t, .i f, .u m] 35), (0, .cells (mm W (rtx xs s p q) (rty ys s p q) ++ [.i s, .i b, .i l, .i 0, .i 0]) 54)], 3⟩ [True] ⟨trivial, trivial⟩ ?_
      refine en ?_
      refine an ?_
      refine rg [] 4 ⟨[(8, .i 4), (7, .u 0), (10, .fn 59 [] [.p 0, .p 1]), (9, .i (f + 2)), (6, .p 2), (3, .p 0), (2, .i n)], [(2, .cells (mm W (rtx xs s p q) (rty ys s p q) ++ [.i s, .i b, .i l, .i 0, .i 0]) 54), (1, .cells [.i t, .i f, .u m] 35), (0, .cells (mm W (rtx xs s p q) (rty ys s p q) ++ [.i s, .i b, .i l, .i 0, .i 0]) 54)], 3⟩ [True, True] ⟨trivial, trivial, trivial⟩ ?_
      refine xw_ret ?_
      refine an_ret ?_
      refine ib_ret ?_
      refine an_ret ?_
      refine juu_ret ?_
      exact bs (.tup [.agg (mm W (rtx xs s p q) (rty ys s p q) ++ [.i s, .i b, .i l, .i 0, .i 0]), .u 0, .i 4]) (Or.inr <| Or.inr <| Or.inr <| Or.inr <| Or.inl <| ⟨(by first | rfl | omega), (by omega), (by omega), (by omega), (by omega), rfl⟩)
     ·
      replace h4 : ¬ ((l - b) < (f + 2)) := of_decide_eq_false h4
      refine xw_skip ?_
      refine an ?_
      refine xw_exit ?_
      refine ib_exit (by kernel_rfl) ?_
      refine an_exit ?_
      refine ib_exit (by kernel_rfl) ?_
      refine an_exit ?_
      refine ib_exit (by kernel_rfl) ?_
      refine an_exit ?_
      refine ib_same ?_
      refine an ?_
      refine xw_seq ?_
      refine reg ?_
      refine rk [] 1 0 ⟨[(91, .agg (mm W xs ys ++ [.i s, .i b, .i l, .i p, .i q])), (10, .fn 59 [] [.p 0, .p 1]), (9, .i (f + 2)), (8, .i 0), (7, .u 0), (6, .p 2), (3, .p 0), (2, .i n)], [(2, .cells [.i 0, .nils, .nils, .i 0, .i 0, .i 0, .i 0, .i 0] 54), (1, .cells [.i t, .i f, .u m] 35), (0, .cells (mm W xs ys ++ [.i s, .i b, .i l, .i p, .i q]) 54)], 3⟩ [True] ⟨trivial, trivial⟩ ?_
      refine pc (retire W xs ys s b l p q ‹_› ‹_› ‹_› ‹_› ‹_› ‹_› ‹_› ‹_›) ?_
      obtain ⟨h5, h6, h7, h8⟩ := rt_ok W xs ys s p q ‹_› ‹_› ‹_› ‹_› (by omega) (by omega)
      refine rk [] 1 2 ⟨[(10, .fn 59 [] [.p 0, .p 1]), (9, .i (f + 2)), (8, .i 0), (7, .u 0), (6, .p 2), (3, .p 0), (2, .i n)], [(2, .cells [.i 0, .nils, .nils, .i 0, .i 0, .i 0, .i 0, .i 0] 54), (1, .cells [.i t, .i f, .u m] 35), (0, .cells (mm W (rtx xs s p q) (rty ys s p q) ++ [.i s, .i b, .i l, .i 0, .i 0]) 54)], 3⟩ [True] ⟨trivial, trivial⟩ ?_
      refine en ?_
      refine an ?_
      refine xw_seq ?_
      refine reg ?_
      refine rk [] 3 0 ⟨[(96, .i n), (95, .agg [.i s, .i b, .i l]), (10, .fn 59 [] [.p 0, .p 1]), (9, .i (f + 2)), (8, .i 0), (7, .u 0), (6, .p 2), (3, .p 0), (2, .i n)], [(2, .cells [.i 0, .nils, .nils, .i 0, .i 0, .i 0, .i 0, .i 0] 54), (1, .cells [.i t, .i f, .u m] 35), (0, .cells (mm W (rtx xs s p q) (rty ys s p q) ++ [.i s, .i b, .i l, .i 0, .i 0]) 54)], 3⟩ [True] ⟨trivial, trivial⟩ ?_
      by_cases h9 : n ≤ l - b
      ·
       refine pc (most_1 s b l n ‹_› (by omega) ‹_›) ?_
       refine rk [] 8 4 ⟨[(17, .i n), (15, .p 3), (10, .fn 59 [] [.p 0, .p 1]), (9, .i (f + 2)), (8, .i 0), (7, .u 0), (6, .p 2), (3, .p 0), (2, .i n)], [(3, .cells [.i s, .i (b + n), .i l] 50), (2, .cells [.i 0, .nils, .nils, .i 0, .i 0, .i 0, .i 0, .i 0] 54), (1, .cells [.i t, .i f, .u m] 35), (0, .cells (mm W (rtx xs s p q) (rty ys s p q) ++ [.i s, .i b, .i l, .i 0, .i 0]) 54)], 4⟩ [True] ⟨trivial, trivial⟩ ?_
       refine en ?_
       refine an ?_
       refine rg [(7, .i (b + n))] 11 ⟨[(15, .p 3), (10, .fn 59 [] [.p 0, .p 1]), (9, .i (f + 2)), (8, .i 0), (7, .u 0), (6, .p 2), (3, .p 0), (2, .i n)], [(3, .cells [.i s, .i (b + n), .i l] 50), (2, .cells [.i 0, .nils, .nils, .i 0, .i 0, .i 0, .i 0, .i 0] 54), (1, .cells [.i t, .i f, .u m] 35), (0, .cells (mm W (rtx xs s p q) (rty ys s p q) ++ [.i s, .i b, .i l, .i b, .i (b + n)]) 54)], 4⟩ [True, True, IntKind.i64.wrap (b + n) = (b + n), True] ⟨trivial, trivial, i64_eq (by omega) (by omega), trivial, trivial⟩ ?_
       refine rg [] 3 ⟨[(10, .fn 59 [] [.p 0, .p 1]), (9, .i (f + 2)), (8, .i 0), (7, .u 0), (6, .p 2), (3, .p 0), (2, .i n)], [(2, .cells [.i 0, .nils, .nils, .i 0, .i 0, .i 0, .i 0, .i 0] 54), (1, .cells [.i t, .i f, .u m] 35), (0, .cells (mm W (rtx xs s p q) (rty ys s p q) ++ [.i s, .i (b + n), .i l, .i b, .i (b + n)]) 54)], 4⟩ [True, True] ⟨trivial, trivial, trivial⟩ ?_
       refine xw_goto ?_
       refine juu ?_
       refine uj_step ?_
       refine xw_seq ?_
       refine xw_skip ?_
       refine an ?_
       refine xw_seq ?_
       refine xw_block ?_
       refine xw_seq ?_
       refine xw_block ?_
       refine xw_seq ?_
       refine xw_block ?_
       refine xw_seq ?_
       refine xw_block ?_
       refine xw_seq ?_
       refine xw_seq ?_
       refine xw_seq ?_
       refine reg ?_
       refine rk [] 2 0 ⟨[(32, .agg (mm W (rtx xs s p q) (rty ys s p q) ++ [.i s, .i (b + n), .i l, .i b, .i (b + n)])), (31, .i (f + 2)), (10, .fn 59 [] [.p 0, .p 1]), (9, .i (f + 2)), (8, .i 0), (7, .u 0), (6, .p 2), (3, .p 0), (2, .i n)], [(2, .cells [.i 0, .nils, .nils, .i 0, .i 0, .i 0, .i 0, .i 0] 54), (1, .cells [.i t, .i f, .u m] 35), (0, .cells (mm W (rtx xs s p q) (rty ys s p q) ++ [.i s, .i (b + n), .i l, .i b, .i (b + n)]) 54)], 4⟩ [True] ⟨trivial, trivial⟩ ?_
       refine pc (gap W (rtx xs s p q) (rty ys s p q) s (b + n) l b (b + n) (by omega)) ?_
       refine rk [(3, .t)] 2 3 ⟨[(30, .t), (10, .fn 59 [] [.p 0, .p 1]), (9, .i (f + 2)), (8, .i 0), (7, .u 0), (6, .p 2), (3, .p 0), (2, .i n)], [(2, .cells [.i 0, .nils, .nils, .i 0, .i 0, .i 0, .i 0, .i 0] 54), (1, .cells [.i t, .i f, .u m] 35), (0, .cells (mm W (rtx xs s p q) (rty ys s p q) ++ [.i s, .i (b + n), .i l, .i b, .i (b + n)]) 54)], 4⟩ [(decide ((f + 2) ≤ ((b + n) - b))) = true] ⟨decide_eq_true (by omega), trivial⟩ ?_
       refine en ?_
       refine an ?_
       refine ct ?_
       refine xw_exit ?_
       refine an_exit ?_
       refine an_exit ?_
       refine ib_same ?_
       refine an ?_
       refine xw_seq ?_
       refine xw_seq ?_
       refine reg ?_
       refine rk [] 6 0 ⟨[(51, .i b), (48, .i s), (10, .fn 59 [] [.p 0, .p 1]), (9, .i (f + 2)), (8, .i 0), (7, .u 0), (6, .p 2), (3, .p 0), (2, .i n)], [(2, .cells [.i 0, .nils, .nils, .i 0, .i 0, .i 0, .i 0, .i 0] 54), (1, .cells [.i t, .i f, .u m] 35), (0, .cells (mm W (rtx xs s p q) (rty ys s p q) ++ [.i s, .i (b + n), .i l, .i b, .i (b + n)]) 54)], 4⟩ [True, True] ⟨trivial, trivial, trivial⟩ ?_
       refine pc (addr_1 s b (by omega)) ?_
       refine rk [] 1 7 ⟨[(11, .u ((s + 1) * 4294967296 + b)), (10, .fn 59 [] [.p 0, .p 1]), (9, .i (f + 2)), (8, .i 0), (7, .u 0), (6, .p 2), (3, .p 0), (2, .i n)], [(2, .cells [.i 0, .nils, .nils, .i 0, .i 0, .i 0, .i 0, .i 0] 54), (1, .cells [.i t, .i f, .u m] 35), (0, .cells (mm W (rtx xs s p q) (rty ys s p q) ++ [.i s, .i (b + n), .i l, .i b, .i (b + n)]) 54)], 4⟩ [] trivial ?_
       refine en ?_
       refine an ?_
       refine rg [(4, .i (b + (f + 2)))] 8 ⟨[(11, .u ((s + 1) * 4294967296 + b)), (10, .fn 59 [] [.p 0, .p 1]), (9, .i (f + 2)), (8, .i 0), (7, .u 0), (6, .p 2), (3, .p 0), (2, .i n)], [(2, .cells [.i 0, .nils, .nils, .i 0, .i 0, .i 0, .i 0, .i 0] 54), (1, .cells [.i t, .i f, .u m] 35), (0, .cells (mm W (rtx xs s p q) (rty ys s p q) ++ [.i s, .i (b + n), .i l, .i (b + (f + 2)), .i (b + n)]) 54)], 4⟩ [True, IntKind.i64.wrap (b + (f + 2)) = (b + (f + 2)), True] ⟨trivial, i64_eq (by omega) (by omega), trivial, trivial⟩ ?_
       refine xw_seq ?_
       refine reg ?_
       refine rk [] 2 0 ⟨[(61, .u ((s + 1) * 4294967296 + b)), (60, .fn 59 [] [.p 0, .p 1]), (10, .fn 59 [] [.p 0, .p 1]), (9, .i (f + 2)), (8, .i 0), (7, .u 0), (6, .p 2), (3, .p 0), (2, .i n)], [(2, .cells [.i 0, .nils, .nils, .i 0, .i 0, .i 0, .i 0, .i 0] 54), (1, .cells [.i t, .i f, .u m] 35), (0, .cells (mm W (rtx xs s p q) (rty ys s p q) ++ [.i s, .i (b + n), .i l, .i (b + (f + 2)), .i (b + n)]) 54)], 4⟩ [] trivial ?_
       refine callx (f := 59) (args := [.u ((s + 1) * 4294967296 + b), .p 0, .p 1]) (d := (some 62)) (by kernel_rfl) (xcall_of TT_ok Try.func59 rfl (by decide) (Nat.le_of_ble_eq_true (by kernel_rfl)) ?_)
       refine rg [] 3 ⟨[(6, .i 0), (5, .u 0), (4, .p 4), (0, .u ((s + 1) * 4294967296 + b)), (1, .p 0), (2, .p 1)], [(4, .cells [.i 0, .nils, .nils, .i 0, .i 0, .i 0, .i 0, .i 0] 54), (2, .cells [.i 0, .nils, .nils, .i 0, .i 0, .i 0, .i 0, .i 0] 54), (1, .cells [.i t, .i f, .u m] 35), (0, .cells (mm W (rtx xs s p q) (rty ys s p q) ++ [.i s, .i (b + n), .i l, .i (b + (f + 2)), .i (b + n)]) 54)], 5⟩ [] trivial ?_
       refine xw_seq ?_
       refine reg ?_
       refine rk [] 4 0 ⟨[(11, .agg [.i t, .i f, .u m]), (10, .u ((s + 1) * 4294967296 + b)), (9, .agg (mm W (rtx xs s p q) (rty ys s p q))), (6, .i 0), (5, .u 0), (4, .p 4), (0, .u ((s + 1) * 4294967296 + b)), (1, .p 0)], [(4, .cells [.i 0, .nils, .nils, .i 0, .i 0, .i 0, .i 0, .i 0] 54), (2, .cells [.i 0, .nils, .nils, .i 0, .i 0, .i 0, .i 0, .i 0] 54), (1, .cells [.i t, .i f, .u m] 35), (0, .cells (mm W (rtx xs s p q) (rty ys s p q) ++ [.i s, .i (b + n), .i l, .i (b + (f + 2)), .i (b + n)]) 54)], 5⟩ [True, True] ⟨trivial, trivial, trivial⟩ ?_
       refine pc (oput_1 W (rtx xs s p q) (rty ys s p q) ((s + 1) * 4294967296 + b) t f m ‹_› ‹_› ‹_› ‹_› ‹_› (by omega) ‹_› ‹_› ‹_› ‹_› (by omega) (by omega)) ?_
       obtain ⟨h10, h11, h12, h13, h14, h15⟩ := put_ok W (rtx xs s p q) (rty ys s p q) ((s + 1) * 4294967296 + b) t f m ‹_› ‹_› ‹_› ‹_› (by omega) (by omega) (by omega) (by first | omega | decide) (by omega)
       refine rk [] 5 5 ⟨[(6, .i 0), (5, .u 0), (4, .p 4), (0, .u ((s + 1) * 4294967296 + b)), (1, .p 0)], [(4, .cells [.i 0, .nils, .nils, .i 0, .i 0, .i 0, .i 0, .i 0] 54), (2, .cells [.i 0, .nils, .nils, .i 0, .i 0, .i 0, .i 0, .i 0] 54), (1, .cells [.i t, .i f, .u m] 35), (0, .cells (mm W (px (rtx xs s p q) ((s + 1) * 4294967296 + b) t f m) (py (rty ys s p q) ((s + 1) * 4294967296 + b) t f m) ++ [.i s, .i (b + n), .i l, .i (b + (f + 2)), .i (b + n)]) 54)], 5⟩ [True] ⟨trivial, trivial⟩ ?_
       refine en ?_
       refine an ?_
       refine rg [] 5 ⟨[(6, .i 0), (5, .u ((s + 1) * 4294967296 + b)), (4, .p 4)], [(4, .cells (mm W (px (rtx xs s p q) ((s + 1) * 4294967296 + b) t f m) (py (rty ys s p q) ((s + 1) * 4294967296 + b) t f m) ++ [.i s, .i (b + n), .i l, .i (b + (f + 2)), .i (b + n)]) 54), (2, .cells [.i 0, .nils, .nils, .i 0, .i 0, .i 0, .i 0, .i 0] 54), (1, .cells [.i t, .i f, .u m] 35), (0, .cells (mm W (px (rtx xs s p q) ((s + 1) * 4294967296 + b) t f m) (py (rty ys s p q) ((s + 1) * 4294967296 + b) t f m) ++ [.i s, .i (b + n), .i l, .i (b + (f + 2)), .i (b + n)]) 54)], 5⟩ [True, True] ⟨trivial, trivial, trivial⟩ ?_
       refine xw_ret ?_
       refine ⟨.tup [.agg (mm W (px (rtx xs s p q) ((s + 1) * 4294967296 + b) t f m) (py (rty ys s p q) ((s + 1) * 4294967296 + b) t f m) ++ [.i s, .i (b + n), .i l, .i (b + (f + 2)), .i (b + n)]), .u ((s + 1) * 4294967296 + b), .i 0], by kernel_rfl, ?_⟩
       show XOi _ _ _ _ _ _ ⟨[(62, .tup [.agg (mm W (px (rtx xs s p q) ((s + 1) * 4294967296 + b) t f m) (py (rty ys s p q) ((s + 1) * 4294967296 + b) t f m) ++ [.int .i64 s, .int .i64 (b + n), .int .i64 l, .int .i64 (b + (f + 2)), .int .i64 (b + n)]), .int .u64 ((s + 1) * 4294967296 + b), .int .i64 0]), (61, .int .u64 ((s + 1) * 4294967296 + b)), (60, .fn 59 [] [.loc 0 0, .loc 1 0]), (10, .fn 59 [] [.loc 0 0, .loc 1 0]), (9, .int .i64 (f + 2)), (8, .int .i64 0), (7, .int .u64 0), (6, .loc 2 0), (3, .loc 0 0), (2, .int .i64 n)], [(4, .cells (mm W (px (rtx xs s p q) ((s + 1) * 4294967296 + b) t f m) (py (rty ys s p q) ((s + 1) * 4294967296 + b) t f m) ++ [.int .i64 s, .int .i64 (b + n), .int .i64 l, .int .i64 (b + (f + 2)), .int .i64 (b + n)]) 54), (2, .cells [.int .i64 0, .nils, .nils, .int .i64 0, .int .i64 0, .int .i64 0, .int .i64 0, .int .i64 0] 54), (1, .cells [.int .i64 t, .int .i64 f, .int .u64 m] 35), (0, .cells (mm W (px (rtx xs s p q) ((s + 1) * 4294967296 + b) t f m) (py (rty ys s p q) ((s + 1) * 4294967296 + b) t f m) ++ [.int .i64 s, .int .i64 (b + n), .int .i64 l, .int .i64 (b + (f + 2)), .int .i64 (b + n)]) 54)], 5⟩
       refine rk [] 6 3 ⟨[(8, .i 0), (7, .u ((s + 1) * 4294967296 + b)), (10, .fn 59 [] [.p 0, .p 1]), (9, .i (f + 2)), (6, .p 2), (3, .p 0), (2, .i n)], [(2, .cells (mm W (px (rtx xs s p q) ((s + 1) * 4294967296 + b) t f m) (py (rty ys s p q) ((s + 1) * 4294967296 + b) t f m) ++ [.i s, .i (b + n), .i l, .i (b + (f + 2)), .i (b + n)]) 54), (1, .cells [.i t, .i f, .u m] 35), (0, .cells (mm W (px (rtx xs s p q) ((s + 1) * 4294967296 + b) t f m) (py (rty ys s p q) ((s + 1) * 4294967296 + b) t f m) ++ [.i s, .i (b + n), .i l, .i (b + (f + 2)), .i (b + n)]) 54)], 5⟩ [True] ⟨trivial, trivial⟩ ?_
       refine en ?_
       refine an ?_
       refine xw_ret ?_
       refine an_ret ?_
       refine ib_ret ?_
       refine an_ret ?_
       refine ib_ret ?_
       refine an_ret ?_
       refine ib_ret ?_
       refine an_ret ?_
       refine juu_ret ?_
       exact bk_ret (.tup [.agg (mm W (px (rtx xs s p q) ((s + 1) * 4294967296 + b) t f m) (py (rty ys s p q) ((s + 1) * 4294967296 + b) t f m) ++ [.i s, .i (b + n), .i l, .i (b + (f + 2)), .i (b + n)]), .u ((s + 1) * 4294967296 + b), .i 0]) (.tup [.agg (mm W (px (rtx xs s p q) ((s + 1) * 4294967296 + b) t f m) (py (rty ys s p q) ((s + 1) * 4294967296 + b) t f m) ++ [.i s, .i (b + n), .i l, .i (b + (f + 2)), .i (b + n)]), .u ((s + 1) * 4294967296 + b), .i 0]) (.tup [.agg (mm W (px (rtx xs s p q) ((s + 1) * 4294967296 + b) t f m) (py (rty ys s p q) ((s + 1) * 4294967296 + b) t f m) ++ [.i s, .i (b + (min n (l - b))), .i l, .i (b + (f + 2)), .i (b + (min n (l - b)))]), .u ((s + 1) * 4294967296 + b), .i 0]) (by kernel_rfl) (by kernel_rfl) (wkd [(W : Int) = W, (false = true → false = true), (m64 (px (rtx xs s p q) ((s + 1) * 4294967296 + b) t f m)) = (m64 (px (rtx xs s p q) ((s + 1) * 4294967296 + b) t f m)), (false = true → false = true), (m64 (py (rty ys s p q) ((s + 1) * 4294967296 + b) t f m)) = (m64 (py (rty ys s p q) ((s + 1) * 4294967296 + b) t f m)), (s : Int) = s, ((b + n) : Int) = (b + (min n (l - b))), (l : Int) = l, ((b + (f + 2)) : Int) = (b + (f + 2)), ((b + n) : Int) = (b + (min n (l - b))), (((s + 1) * 4294967296 + b) : Int) = ((s + 1) * 4294967296 + b), (0 : Int) = 0] (by kernel_rfl) ⟨rfl, id, rfl, id, rfl, rfl, (by omega), rfl, rfl, (by omega), rfl, rfl, trivial⟩) (Or.inr <| Or.inr <| Or.inr <| Or.inr <| Or.inr <| ⟨(by first | rfl | omega), (by omega), (by omega), (by omega), (by omega), rfl⟩)
      ·
       refine pc (most_2 s b l n ‹_› (by omega) (by omega)) ?_
       refine rk [] 8 4 ⟨[(17, .i (l - b)), (15, .p 3), (10, .fn 59 [] [.p 0, .p 1]), (9, .i (f + 2)), (8, .i 0), (7, .u 0), (6, .p 2), (3, .p 0), (2, .i n)], [(3, .cells [.i s, .i l, .i l] 50), (2, .cells [.i 0, .nils, .nils, .i 0, .i 0, .i 0, .i 0, .i 0] 54), (1, .cells [.i t, .i f, .u m] 35), (0, .cells (mm W (rtx xs s p q) (rty ys s p q) ++ [.i s, .i b, .i l, .i 0, .i 0]) 54)], 4⟩ [True] ⟨trivial, trivial⟩ ?_
       refine en ?_
       refine an ?_
       refine rg [(7, .i (b + (l - b)))] 11 ⟨[(15, .p 3), (10, .fn 59 [] [.p 0, .p 1]), (9, .i (f + 2)), (8, .i 0), (7, .u 0), (6, .p 2), (3, .p 0), (2, .i n)], [(3, .cells [.i s, .i l, .i l] 50), (2, .cells [.i 0, .nils, .nils, .i 0, .i 0, .i 0, .i 0, .i 0] 54), (1, .cells [.i t, .i f, .u m] 35), (0, .cells (mm W (rtx xs s p q) (rty ys s p q) ++ [.i s, .i b, .i l, .i b, .i (b + (l - b))]) 54)], 4⟩ [True, True, IntKind.i64.wrap (b + (l - b)) = (b + (l - b)), True] ⟨trivial, trivial, i64_eq (by omega) (by omega), trivial, trivial⟩ ?_
       refine rg [] 3 ⟨[(10, .fn 59 [] [.p 0, .p 1]), (9, .i (f + 2)), (8, .i 0), (7, .u 0), (6, .p 2), (3, .p 0), (2, .i n)], [(2, .cells [.i 0, .nils, .nils, .i 0, .i 0, .i 0, .i 0, .i 0] 54), (1, .cells [.i t, .i f, .u m] 35), (0, .cells (mm W (rtx xs s p q) (rty ys s p q) ++ [.i s, .i l, .i l, .i b, .i (b + (l - b))]) 54)], 4⟩ [True, True] ⟨trivial, trivial, trivial⟩ ?_
       refine xw_goto ?_
       refine juu ?_
       refine uj_step ?_
       refine xw_seq ?_
       refine xw_skip ?_
       refine an ?_
       refine xw_seq ?_
       refine xw_block ?_
       refine xw_seq ?_
       refine xw_block ?_
       refine xw_seq ?_
       refine xw_block ?_
       refine xw_seq ?_
       refine xw_block ?_
       refine xw_seq ?_
       refine xw_seq ?_
       refine xw_seq ?_
       refine reg ?_
       refine rk [] 2 0 ⟨[(32, .agg (mm W (rtx xs s p q) (rty ys s p q) ++ [.i s, .i l, .i l, .i b, .i (b + (l - b))])), (31, .i (f + 2)), (10, .fn 59 [] [.p 0, .p 1]), (9, .i (f + 2)), (8, .i 0), (7, .u 0), (6, .p 2), (3, .p 0), (2, .i n)], [(2, .cells [.i 0, .nils, .nils, .i 0, .i 0, .i 0, .i 0, .i 0] 54), (1, .cells [.i t, .i f, .u m] 35), (0, .cells (mm W (rtx xs s p q) (rty ys s p q) ++ [.i s, .i l, .i l, .i b, .i (b + (l - b))]) 54)], 4⟩ [True] ⟨trivial, trivial⟩ ?_
       refine pc (gap W (rtx xs s p q) (rty ys s p q) s l l b (b + (l - b)) (by omega)) ?_
       refine rk [(3, .t)] 2 3 ⟨[(30, .t), (10, .fn 59 [] [.p 0, .p 1]), (9, .i (f + 2)), (8, .i 0), (7, .u 0), (6, .p 2), (3, .p 0), (2, .i n)], [(2, .cells [.i 0, .nils, .nils, .i 0, .i 0, .i 0, .i 0, .i 0] 54), (1, .cells [.i t, .i f, .u m] 35), (0, .cells (mm W (rtx xs s p q) (rty ys s p q) ++ [.i s, .i l, .i l, .i b, .i (b + (l - b))]) 54)], 4⟩ [(decide ((f + 2) ≤ ((b + (l - b)) - b))) = true] ⟨decide_eq_true (by omega), trivial⟩ ?_
       refine en ?_
       refine an ?_
       refine ct ?_
       refine xw_exit ?_
       refine an_exit ?_
       refine an_exit ?_
       refine ib_same ?_
       refine an ?_
       refine xw_seq ?_
       refine xw_seq ?_
       refine reg ?_
       refine rk [] 6 0 ⟨[(51, .i b), (48, .i s), (10, .fn 59 [] [.p 0, .p 1]), (9, .i (f + 2)), (8, .i 0), (7, .u 0), (6, .p 2), (3, .p 0), (2, .i n)], [(2, .cells [.i 0, .nils, .nils, .i 0, .i 0, .i 0, .i 0, .i 0] 54), (1, .cells [.i t, .i f, .u m] 35), (0, .cells (mm W (rtx xs s p q) (rty ys s p q) ++ [.i s, .i l, .i l, .i b, .i (b + (l - b))]) 54)], 4⟩ [True, True] ⟨trivial, trivial, trivial⟩ ?_
       refine pc (addr_1 s b (by omega)) ?_
       refine rk [] 1 7 ⟨[(11, .u ((s + 1) * 4294967296 + b)), (10, .fn 59 [] [.p 0, .p 1]), (9, .i (f + 2)), (8, .i 0), (7, .u 0), (6, .p 2), (3, .p 0), (2, .i n)], [(2, .cells [.i 0, .nils, .nils, .i 0, .i 0, .i 0, .i 0, .i 0] 54), (1, .cells [.i t, .i f, .u m] 35), (0, .cells (mm W (rtx xs s p q) (rty ys s p q) ++ [.i s, .i l, .i l, .i b, .i (b + (l - b))]) 54)], 4⟩ [] trivial ?_
       refine en ?_
       refine an ?_
       refine rg [(4, .i (b + (f + 2)))] 8 ⟨[(11, .u ((s + 1) * 4294967296 + b)), (10, .fn 59 [] [.p 0, .p 1]), (9, .i (f + 2)), (8, .i 0), (7, .u 0), (6, .p 2), (3, .p 0), (2, .i n)], [(2, .cells [.i 0, .nils, .nils, .i 0, .i 0, .i 0, .i 0, .i 0] 54), (1, .cells [.i t, .i f, .u m] 35), (0, .cells (mm W (rtx xs s p q) (rty ys s p q) ++ [.i s, .i l, .i l, .i (b + (f + 2)), .i (b + (l - b))]) 54)], 4⟩ [True, IntKind.i64.wrap (b + (f + 2)) = (b + (f + 2)), True] ⟨trivial, i64_eq (by omega) (by omega), trivial, trivial⟩ ?_
       refine xw_seq ?_
       refine reg ?_
       refine rk [] 2 0 ⟨[(61, .u ((s + 1) * 4294967296 + b)), (60, .fn 59 [] [.p 0, .p 1]), (10, .fn 59 [] [.p 0, .p 1]), (9, .i (f + 2)), (8, .i 0), (7, .u 0), (6, .p 2), (3, .p 0), (2, .i n)], [(2, .cells [.i 0, .nils, .nils, .i 0, .i 0, .i 0, .i 0, .i 0] 54), (1, .cells [.i t, .i f, .u m] 35), (0, .cells (mm W (rtx xs s p q) (rty ys s p q) ++ [.i s, .i l, .i l, .i (b + (f + 2)), .i (b + (l - b))]) 54)], 4⟩ [] trivial ?_
       refine callx (f := 59) (args := [.u ((s + 1) * 4294967296 + b), .p 0, .p 1]) (d := (some 62)) (by kernel_rfl) (xcall_of TT_ok Try.func59 rfl (by decide) (Nat.le_of_ble_eq_true (by kernel_rfl)) ?_)
       refine rg [] 3 ⟨[(6, .i 0), (5, .u 0), (4, .p 4), (0, .u ((s + 1) * 4294967296 + b)), (1, .p 0), (2, .p 1)], [(4, .cells [.i 0, .nils, .nils, .i 0, .i 0, .i 0, .i 0, .i 0] 54), (2, .cells [.i 0, .nils, .nils, .i 0, .i 0, .i 0, .i 0, .i 0] 54), (1, .cells [.i t, .i f, .u m] 35), (0, .cells (mm W (rtx xs s p q) (rty ys s p q) ++ [.i s, .i l, .i l, .i (b + (f + 2)), .i (b + (l - b))]) 54)], 5⟩ [] trivial ?_
       refine xw_seq ?_
       refine reg ?_
       refine rk [] 4 0 ⟨[(11, .agg [.i t, .i f, .u m]), (10, .u ((s + 1) * 4294967296 + b)), (9, .agg (mm W (rtx xs s p q) (rty ys s p q))), (6, .i 0), (5, .u 0), (4, .p 4), (0, .u ((s + 1) * 4294967296 + b)), (1, .p 0)], [(4, .cells [.i 0, .nils, .nils, .i 0, .i 0, .i 0, .i 0, .i 0] 54), (2, .cells [.i 0, .nils, .nils, .i 0, .i 0, .i 0, .i 0, .i 0] 54), (1, .cells [.i t, .i f, .u m] 35), (0, .cells (mm W (rtx xs s p q) (rty ys s p q) ++ [.i s, .i l, .i l, .i (b + (f + 2)), .i (b + (l - b))]) 54)], 5⟩ [True, True] ⟨trivial, trivial, trivial⟩ ?_
       refine pc (oput_1 W (rtx xs s p q) (rty ys s p q) ((s + 1) * 4294967296 + b) t f m ‹_› ‹_› ‹_› ‹_› ‹_› (by omega) ‹_› ‹_› ‹_› ‹_› (by omega) (by omega)) ?_
       obtain ⟨h10, h11, h12, h13, h14, h15⟩ := put_ok W (rtx xs s p q) (rty ys s p q) ((s + 1) * 4294967296 + b) t f m ‹_› ‹_› ‹_› ‹_› (by omega) (by omega) (by omega) (by first | omega | decide) (by omega)
       refine rk [] 5 5 ⟨[(6, .i 0), (5, .u 0), (4, .p 4), (0, .u ((s + 1) * 4294967296 + b)), (1, .p 0)], [(4, .cells [.i 0, .nils, .nils, .i 0, .i 0, .i 0, .i 0, .i 0] 54), (2, .cells [.i 0, .nils, .nils, .i 0, .i 0, .i 0, .i 0, .i 0] 54), (1, .cells [.i t, .i f, .u m] 35), (0, .cells (mm W (px (rtx xs s p q) ((s + 1) * 4294967296 + b) t f m) (py (rty ys s p q) ((s + 1) * 4294967296 + b) t f m) ++ [.i s, .i l, .i l, .i (b + (f + 2)), .i (b + (l - b))]) 54)], 5⟩ [True] ⟨trivial, trivial⟩ ?_
       refine en ?_
       refine an ?_
       refine rg [] 5 ⟨[(6, .i 0), (5, .u ((s + 1) * 4294967296 + b)), (4, .p 4)], [(4, .cells (mm W (px (rtx xs s p q) ((s + 1) * 4294967296 + b) t f m) (py (rty ys s p q) ((s + 1) * 4294967296 + b) t f m) ++ [.i s, .i l, .i l, .i (b + (f + 2)), .i (b + (l - b))]) 54), (2, .cells [.i 0, .nils, .nils, .i 0, .i 0, .i 0, .i 0, .i 0] 54), (1, .cells [.i t, .i f, .u m] 35), (0, .cells (mm W (px (rtx xs s p q) ((s + 1) * 4294967296 + b) t f m) (py (rty ys s p q) ((s + 1) * 4294967296 + b) t f m) ++ [.i s, .i l, .i l, .i (b + (f + 2)), .i (b + (l - b))]) 54)], 5⟩ [True, True] ⟨trivial, trivial, trivial⟩ ?_
       refine xw_ret ?_
       refine ⟨.tup [.agg (mm W (px (rtx xs s p q) ((s + 1) * 4294967296 + b) t f m) (py (rty ys s p q) ((s + 1) * 4294967296 + b) t f m) ++ [.i s, .i l, .i l, .i (b + (f + 2)), .i (b + (l - b))]), .u ((s + 1) * 4294967296 + b), .i 0], by kernel_rfl, ?_⟩
       show XOi _ _ _ _ _ _ ⟨[(62, .tup [.agg (mm W (px (rtx xs s p q) ((s + 1) * 4294967296 + b) t f m) (py (rty ys s p q) ((s + 1) * 4294967296 + b) t f m) ++ [.int .i64 s, .int .i64 l, .int .i64 l, .int .i64 (b + (f + 2)), .int .i64 (b + (l - b))]), .int .u64 ((s + 1) * 4294967296 + b), .int .i64 0]), (61, .int .u64 ((s + 1) * 4294967296 + b)), (60, .fn 59 [] [.loc 0 0, .loc 1 0]), (10, .fn 59 [] [.loc 0 0, .loc 1 0]), (9, .int .i64 (f + 2)), (8, .int .i64 0), (7, .int .u64 0), (6, .loc 2 0), (3, .loc 0 0), (2, .int .i64 n)], [(4, .cells (mm W (px (rtx xs s p q) ((s + 1) * 4294967296 + b) t f m) (py (rty ys s p q) ((s + 1) * 4294967296 + b) t f m) ++ [.int .i64 s, .int .i64 l, .int .i64 l, .int .i64 (b + (f + 2)), .int .i64 (b + (l - b))]) 54), (2, .cells [.int .i64 0, .nils, .nils, .int .i64 0, .int .i64 0, .int .i64 0, .int .i64 0, .int .i64 0] 54), (1, .cells [.int .i64 t, .int .i64 f, .int .u64 m] 35), (0, .cells (mm W (px (rtx xs s p q) ((s + 1) * 4294967296 + b) t f m) (py (rty ys s p q) ((s + 1) * 4294967296 + b) t f m) ++ [.int .i64 s, .int .i64 l, .int .i64 l, .int .i64 (b + (f + 2)), .int .i64 (b + (l - b))]) 54)], 5⟩
       refine rk [] 6 3 ⟨[(8, .i 0), (7, .u ((s + 1) * 4294967296 + b)), (10, .fn 59 [] [.p 0, .p 1]), (9, .i (f + 2)), (6, .p 2), (3, .p 0), (2, .i n)], [(2, .cells (mm W (px (rtx xs s p q) ((s + 1) * 4294967296 + b) t f m) (py (rty ys s p q) ((s + 1) * 4294967296 + b) t f m) ++ [.i s, .i l, .i l, .i (b + (f + 2)), .i (b + (l - b))]) 54), (1, .cells [.i t, .i f, .u m] 35), (0, .cells (mm W (px (rtx xs s p q) ((s + 1) * 4294967296 + b) t f m) (py (rty ys s p q) ((s + 1) * 4294967296 + b) t f m) ++ [.i s, .i l, .i l, .i (b + (f + 2)), .i (b + (l - b))]) 54)], 5⟩ [True] ⟨trivial, trivial⟩ ?_
       refine en ?_
       refine an ?_
       refine xw_ret ?_
       refine an_ret ?_
       refine ib_ret ?_
       refine an_ret ?_
       refine ib_ret ?_
       refine an_ret ?_
       refine ib_ret ?_
       refine an_ret ?_
       refine juu_ret ?_
       exact bk_ret (.tup [.agg (mm W (px (rtx xs s p q) ((s + 1) * 4294967296 + b) t f m) (py (rty ys s p q) ((s + 1) * 4294967296 + b) t f m) ++ [.i s, .i l, .i l, .i (b + (f + 2)), .i (b + (l - b))]), .u ((s + 1) * 4294967296 + b), .i 0]) (.tup [.agg (mm W (px (rtx xs s p q) ((s + 1) * 4294967296 + b) t f m) (py (rty ys s p q) ((s + 1) * 4294967296 + b) t f m) ++ [.i s, .i l, .i l, .i (b + (f + 2)), .i (b + (l - b))]), .u ((s + 1) * 4294967296 + b), .i 0]) (.tup [.agg (mm W (px (rtx xs s p q) ((s + 1) * 4294967296 + b) t f m) (py (rty ys s p q) ((s + 1) * 4294967296 + b) t f m) ++ [.i s, .i (b + (min n (l - b))), .i l, .i (b + (f + 2)), .i (b + (min n (l - b)))]), .u ((s + 1) * 4294967296 + b), .i 0]) (by kernel_rfl) (by kernel_rfl) (wkd [(W : Int) = W, (false = true → false = true), (m64 (px (rtx xs s p q) ((s + 1) * 4294967296 + b) t f m)) = (m64 (px (rtx xs s p q) ((s + 1) * 4294967296 + b) t f m)), (false = true → false = true), (m64 (py (rty ys s p q) ((s + 1) * 4294967296 + b) t f m)) = (m64 (py (rty ys s p q) ((s + 1) * 4294967296 + b) t f m)), (s : Int) = s, (l : Int) = (b + (min n (l - b))), (l : Int) = l, ((b + (f + 2)) : Int) = (b + (f + 2)), ((b + (l - b)) : Int) = (b + (min n (l - b))), (((s + 1) * 4294967296 + b) : Int) = ((s + 1) * 4294967296 + b), (0 : Int) = 0] (by kernel_rfl) ⟨rfl, id, rfl, id, rfl, rfl, (by omega), rfl, rfl, (by omega), rfl, rfl, trivial⟩) (Or.inr <| Or.inr <| Or.inr <| Or.inr <| Or.inr <| ⟨(by first | rfl | omega), (by omega), (by omega), (by omega), (by omega), rfl⟩)
 ·
  refine pc (hright_2 t f m ‹_› ‹_› ‹_› ‹_›) ?_
  have h1 : (headErr t f m) ≠ 0 := headErr_ne (by omega) (by omega)
  refine rk [(2, .t)] 6 2 ⟨[(25, .t), (8, .i 0), (7, .u 0), (6, .p 2), (4, .p 1), (3, .p 0), (2, .i n)], [(2, .cells [.i 0, .nils, .nils, .i 0, .i 0, .i 0, .i 0, .i 0] 54), (1, .cells [.i t, .i f, .u m] 35), (0, .cells (mm W xs ys ++ [.i s, .i b, .i l, .i p, .i q]) 54)], 3⟩ [((headErr t f m) != 0) = true, True] ⟨bne_iff_ne.2 (by omega), trivial, trivial⟩ ?_
  refine en ?_
  refine an ?_
  refine ct ?_
  refine rg [] 4 ⟨[(8, .i 1), (7, .u 0), (6, .p 2), (4, .p 1), (3, .p 0), (2, .i n)], [(2, .cells (mm W xs ys ++ [.i s, .i b, .i l, .i p, .i q]) 54), (1, .cells [.i t, .i f, .u m] 35), (0, .cells (mm W xs ys ++ [.i s, .i b, .i l, .i p, .i q]) 54)], 3⟩ [True, True] ⟨trivial, trivial, trivial⟩ ?_
  refine xw_ret ?_
  refine an_ret ?_
  refine juu_ret ?_
  exact bs (.tup [.agg (mm W xs ys ++ [.i s, .i b, .i l, .i p, .i q]), .u 0, .i 1]) (Or.inl <| ⟨(by first | rfl | omega), rfl⟩)

theorem bmake_1 (W : Int) (xs : List Int) (ys : List Int) (s : Int) (b : Int) (l : Int) (p : Int) (q : Int) (n : Int) (t : Int) (f : Int) (m : Int) (hp0 : 16 ≤ W ∧ W ≤ 4096) (hp1 : (xs.length : Int) = W) (hp2 : (ys.length : Int) = W) (hp3 : U64s xs) (hp4 : U64s ys) (hp5 : (s = 0 ∨ s = 1) ∧ 0 ≤ b ∧ b ≤ l ∧ l ≤ 4096) (hp6 : l = W) (hp7 : 0 ≤ p ∧ p ≤ q ∧ q ≤ b) (hp8 : -9223372036854775808 ≤ t ∧ t ≤ 9223372036854775807) (hp9 : -9223372036854775808 ≤ f ∧ f ≤ 9223372036854775807) (hp10 : 0 ≤ m ∧ m ≤ 18446744073709551615) (hp11 : -9223372036854775808 ≤ n ∧ n ≤ 9223372036854775807) (hp12 : ¬ (((t = 255 ∧ 0 ≤ f ∧ f ≤ 65535 ∧ m = 0) ∨ (1 ≤ t ∧ t ≤ 200 ∧ 0 ≤ f ∧ f ≤ 16 ∧ m < 2 ^ (Int.toNat f) ∧ m < 65536)) ∧ t ≠ 255)) : Pub Try.prog 28 [.agg (mm W xs ys ++ [.int .i64 s, .int .i64 b, .int .i64 l, .int .i64 p, .int .i64 q]), .agg [.int .i64 t, .int .i64 f, .int .u64 m], .int .i64 n] (fun rv => rv = .tup [.agg (mm W xs ys ++ [.int .i64 s, .int .i64 b, .int .i64 l, .int .i64 p, .int .i64 q]), .int .u64 0, .int .i64 1]) := by
  refine (bmake W xs ys s b l p q n t f m hp0 hp1 hp2 hp3 hp4 hp5 hp6 hp7 hp8 hp9 hp10 hp11).mono ?_
  rintro _ (⟨g0, rfl⟩ | ⟨g0, g1, g2, rfl⟩ | ⟨g0, g1, g2, g3, g4, rfl⟩ | ⟨g0, g1, g2, g3, g4, rfl⟩ | ⟨g0, g1, g2, g3, g4, rfl⟩ | ⟨g0, g1, g2, g3, g4, rfl⟩)
  · rfl
  · exfalso; first | omega | grind
  · exfalso; first | omega | grind
  · exfalso; first | omega | grind
  · exfalso; first | omega | grind
  · exfalso; first | omega | grind

theorem bmake_2 (W : Int) (xs : List Int) (ys : List Int) (s : Int) (b : Int) (l : Int) (p : Int) (q : Int) (n : Int) (t : Int) (f : Int) (m : Int) (hp0 : 16 ≤ W ∧ W ≤ 4096) (hp1 : (xs.length : Int) = W) (hp2 : (ys.length : Int) = W) (hp3 : U64s xs) (hp4 : U64s ys) (hp5 : (s = 0 ∨ s = 1) ∧ 0 ≤ b ∧ b ≤ l ∧ l ≤ 4096) (hp6 : l = W) (hp7 : 0 ≤ p ∧ p ≤ q ∧ q ≤ b) (hp8 : -9223372036854775808 ≤ t ∧ t ≤ 9223372036854775807) (hp9 : -9223372036854775808 ≤ f ∧ f ≤ 9223372036854775807) (hp10 : 0 ≤ m ∧ m ≤ 18446744073709551615) (hp11 : -9223372036854775808 ≤ n ∧ n ≤ 9223372036854775807) (hp12 : (t = 255 ∧ 0 ≤ f ∧ f ≤ 65535 ∧ m = 0) ∨ (1 ≤ t ∧ t ≤ 200 ∧ 0 ≤ f ∧ f ≤ 16 ∧ m < 2 ^ (Int.toNat f) ∧ m < 65536)) (hp13 : t ≠ 255) (hp14 : f + 2 ≤ q - p) : Pub Try.prog 28 [.agg (mm W xs ys ++ [.int .i64 s, .int .i64 b, .int .i64 l, .int .i64 p, .int .i64 q]), .agg [.int .i64 t, .int .i64 f, .int .u64 m], .int .i64 n] (fun rv => rv = .tup [.agg (mm W (px xs ((s + 1) * 4294967296 + p) t f m) (py ys ((s + 1) * 4294967296 + p) t f m) ++ [.int .i64 s, .int .i64 b, .int .i64 l, .int .i64 (p + (f + 2)), .int .i64 q]), .int .u64 ((s + 1) * 4294967296 + p), .int .i64 0]) := by
  refine (bmake W xs ys s b l p q n t f m hp0 hp1 hp2 hp3 hp4 hp5 hp6 hp7 hp8 hp9 hp10 hp11).mono ?_
  rintro _ (⟨g0, rfl⟩ | ⟨g0, g1, g2, rfl⟩ | ⟨g0, g1, g2, g3, g4, rfl⟩ | ⟨g0, g1, g2, g3, g4, rfl⟩ | ⟨g0, g1, g2, g3, g4, rfl⟩ | ⟨g0, g1, g2, g3, g4, rfl⟩)
  · exfalso; first | omega | grind
  · rfl
  · exfalso; first | omega | grind
  · exfalso; first | omega | grind
  · exfalso; first | omega | grind
  · exfalso; first | omega | grind

theorem bmake_3 (W : Int) (xs : List Int) (ys : List Int) (s : Int) (b : Int) (l : Int) (p : Int) (q : Int) (n : Int) (t : Int) (f : Int) (m : Int) (hp0 : 16 ≤ W ∧ W ≤ 4096) (hp1 : (xs.length : Int) = W) (hp2 : (ys.length : Int) = W) (hp3 : U64s xs) (hp4 : U64s ys) (hp5 : (s = 0 ∨ s = 1) ∧ 0 ≤ b ∧ b ≤ l ∧ l ≤ 4096) (hp6 : l = W) (hp7 : 0 ≤ p ∧ p ≤ q ∧ q ≤ b) (hp8 : -9223372036854775808 ≤ t ∧ t ≤ 9223372036854775807) (hp9 : -9223372036854775808 ≤ f ∧ f ≤ 9223372036854775807) (hp10 : 0 ≤ m ∧ m ≤ 18446744073709551615) (hp11 : -9223372036854775808 ≤ n ∧ n ≤ 9223372036854775807) (hp12 : (t = 255 ∧ 0 ≤ f ∧ f ≤ 65535 ∧ m = 0) ∨ (1 ≤ t ∧ t ≤ 200 ∧ 0 ≤ f ∧ f ≤ 16 ∧ m < 2 ^ (Int.toNat f) ∧ m < 65536)) (hp13 : t ≠ 255) (hp14 : q - p < f + 2) (hp15 : n < 2 * (f + 2)) (hp16 : f + 2 ≤ l - b) : Pub Try.prog 28 [.agg (mm W xs ys ++ [.int .i64 s, .int .i64 b, .int .i64 l, .int .i64 p, .int .i64 q]), .agg [.int .i64 t, .int .i64 f, .int .u64 m], .int .i64 n] (fun rv => rv = .tup [.agg (mm W (px xs ((s + 1) * 4294967296 + b) t f m) (py ys ((s + 1) * 4294967296 + b) t f m) ++ [.int .i64 s, .int .i64 (b + (f + 2)), .int .i64 l, .int .i64 p, .int .i64 q]), .int .u64 ((s + 1) * 4294967296 + b), .int .i64 0]) := by
  refine (bmake W xs ys s b l p q n t f m hp0 hp1 hp2 hp3 hp4 hp5 hp6 hp7 hp8 hp9 hp10 hp11).mono ?_
  rintro _ (⟨g0, rfl⟩ | ⟨g0, g1, g2, rfl⟩ | ⟨g0, g1, g2, g3, g4, rfl⟩ | ⟨g0, g1, g2, g3, g4, rfl⟩ | ⟨g0, g1, g2, g3, g4, rfl⟩ | ⟨g0, g1, g2, g3, g4, rfl⟩)
  · exfalso; first | omega | grind
  · exfalso; first | omega | grind
  · rfl
  · exfalso; first | omega | grind
  · exfalso; first | omega | grind
  · exfalso; first | omega | grind

theorem bmake_4 (W : Int) (xs : List Int) (ys : List Int) (s : Int) (b : Int) (l : Int) (p : Int) (q : Int) (n : Int) (t : Int) (f : Int) (m : Int) (hp0 : 16 ≤ W ∧ W ≤ 4096) (hp1 : (xs.length : Int) = W) (hp2 : (ys.length : Int) = W) (hp3 : U64s xs) (hp4 : U64s ys) (hp5 : (s = 0 ∨ s = 1) ∧ 0 ≤ b ∧ b ≤ l ∧ l ≤ 4096) (hp6 : l = W) (hp7 : 0 ≤ p ∧ p ≤ q ∧ q ≤ b) (hp8 : -9223372036854775808 ≤ t ∧ t ≤ 9223372036854775807) (hp9 : -9223372036854775808 ≤ f ∧ f ≤ 9223372036854775807) (hp10 : 0 ≤ m ∧ m ≤ 18446744073709551615) (hp11 : -9223372036854775808 ≤ n ∧ n ≤ 9223372036854775807) (hp12 : (t = 255 ∧ 0 ≤ f ∧ f ≤ 65535 ∧ m = 0) ∨ (1 ≤ t ∧ t ≤ 200 ∧ 0 ≤ f ∧ f ≤ 16 ∧ m < 2 ^ (Int.toNat f) ∧ m < 65536)) (hp13 : t ≠ 255) (hp14 : q - p < f + 2) (hp15 : n < 2 * (f + 2)) (hp16 : l - b < f + 2) : Pub Try.prog 28 [.agg (mm W xs ys ++ [.int .i64 s, .int .i64 b, .int .i64 l, .int .i64 p, .int .i64 q]), .agg [.int .i64 t, .int .i64 f, .int .u64 m], .int .i64 n] (fun rv => rv = .tup [.agg (mm W xs ys ++ [.int .i64 s, .int .i64 b, .int .i64 l, .int .i64 p, .int .i64 q]), .int .u64 0, .int .i64 4]) := by
  refine (bmake W xs ys s b l p q n t f m hp0 hp1 hp2 hp3 hp4 hp5 hp6 hp7 hp8 hp9 hp10 hp11).mono ?_
  rintro _ (⟨g0, rfl⟩ | ⟨g0, g1, g2, rfl⟩ | ⟨g0, g1, g2, g3, g4, rfl⟩ | ⟨g0, g1, g2, g3, g4, rfl⟩ | ⟨g0, g1, g2, g3, g4, rfl⟩ | ⟨g0, g1, g2, g3, g4, rfl⟩)
  · exfalso; first | omega | grind
  · exfalso; first | omega | grind
  · exfalso; first | omega | grind
  · rfl
  · exfalso; first | omega | grind
  · exfalso; first | omega | grind

theorem bmake_5 (W : Int) (xs : List Int) (ys : List Int) (s : Int) (b : Int) (l : Int) (p : Int) (q : Int) (n : Int) (t : Int) (f : Int) (m : Int) (hp0 : 16 ≤ W ∧ W ≤ 4096) (hp1 : (xs.length : Int) = W) (hp2 : (ys.length : Int) = W) (hp3 : U64s xs) (hp4 : U64s ys) (hp5 : (s = 0 ∨ s = 1) ∧ 0 ≤ b ∧ b ≤ l ∧ l ≤ 4096) (hp6 : l = W) (hp7 : 0 ≤ p ∧ p ≤ q ∧ q ≤ b) (hp8 : -9223372036854775808 ≤ t ∧ t ≤ 9223372036854775807) (hp9 : -9223372036854775808 ≤ f ∧ f ≤ 9223372036854775807) (hp10 : 0 ≤ m ∧ m ≤ 18446744073709551615) (hp11 : -9223372036854775808 ≤ n ∧ n ≤ 9223372036854775807) (hp12 : (t = 255 ∧ 0 ≤ f ∧ f ≤ 65535 ∧ m = 0) ∨ (1 ≤ t ∧ t ≤ 200 ∧ 0 ≤ f ∧ f ≤ 16 ∧ m < 2 ^ (Int.toNat f) ∧ m < 65536)) (hp13 : t ≠ 255) (hp14 : q - p < f + 2) (hp15 : 2 * (f + 2) ≤ n) (hp16 : l - b < f + 2) : Pub Try.prog 28 [.agg (mm W xs ys ++ [.int .i64 s, .int .i64 b, .int .i64 l, .int .i64 p, .int .i64 q]), .agg [.int .i64 t, .int .i64 f, .int .u64 m], .int .i64 n] (fun rv => rv = .tup [.agg (mm W (rtx xs s p q) (rty ys s p q) ++ [.int .i64 s, .int .i64 b, .int .i64 l, .int .i64 0, .int .i64 0]), .int .u64 0, .int .i64 4]) := by
  refine (bmake W xs ys s b l p q n t f m hp0 hp1 hp2 hp3 hp4 hp5 hp6 hp7 hp8 hp9 hp10 hp11).mono ?_
  rintro _ (⟨g0, rfl⟩ | ⟨g0, g1, g2, rfl⟩ | ⟨g0, g1, g2, g3, g4, rfl⟩ | ⟨g0, g1, g2, g3, g4, rfl⟩ | ⟨g0, g1, g2, g3, g4, rfl⟩ | ⟨g0, g1, g2, g3, g4, rfl⟩)
  · exfalso; first | omega | grind
  · exfalso; first | omega | grind
  · exfalso; first | omega | grind
  · exfalso; first | omega | grind
  · rfl
  · exfalso; first | omega | grind

theorem bmake_6 (W : Int) (xs : List Int) (ys : List Int) (s : Int) (b : Int) (l : Int) (p : Int) (q : Int) (n : Int) (t : Int) (f : Int) (m : Int) (hp0 : 16 ≤ W ∧ W ≤ 4096) (hp1 : (xs.length : Int) = W) (hp2 : (ys.length : Int) = W) (hp3 : U64s xs) (hp4 : U64s ys) (hp5 : (s = 0 ∨ s = 1) ∧ 0 ≤ b ∧ b ≤ l ∧ l ≤ 4096) (hp6 : l = W) (hp7 : 0 ≤ p ∧ p ≤ q ∧ q ≤ b) (hp8 : -9223372036854775808 ≤ t ∧ t ≤ 9223372036854775807) (hp9 : -9223372036854775808 ≤ f ∧ f ≤ 9223372036854775807) (hp10 : 0 ≤ m ∧ m ≤ 18446744073709551615) (hp11 : -9223372036854775808 ≤ n ∧ n ≤ 9223372036854775807) (hp12 : (t = 255 ∧ 0 ≤ f ∧ f ≤ 65535 ∧ m = 0) ∨ (1 ≤ t ∧ t ≤ 200 ∧ 0 ≤ f ∧ f ≤ 16 ∧ m < 2 ^ (Int.toNat f) ∧ m < 65536)) (hp13 : t ≠ 255) (hp14 : q - p < f + 2) (hp15 : 2 * (f + 2) ≤ n) (hp16 : f + 2 ≤ l - b) : Pub Try.prog 28 [.agg (mm W xs ys ++ [.int .i64 s, .int .i64 b, .int .i64 l, .int .i64 p, .int .i64 q]), .agg [.int .i64 t, .int .i64 f, .int .u64 m], .int .i64 n] (fun rv => rv = .tup [.agg (mm W (px (rtx xs s p q) ((s + 1) * 4294967296 + b) t f m) (py (rty ys s p q) ((s + 1) * 4294967296 + b) t f m) ++ [.int .i64 s, .int .i64 (b + (min n (l - b))), .int .i64 l, .int .i64 (b + (f + 2)), .int .i64 (b + (min n (l - b)))]), .int .u64 ((s + 1) * 4294967296 + b), .int .i64 0]) := by
  refine (bmake W xs ys s b l p q n t f m hp0 hp1 hp2 hp3 hp4 hp5 hp6 hp7 hp8 hp9 hp10 hp11).mono ?_
  rintro _ (⟨g0, rfl⟩ | ⟨g0, g1, g2, rfl⟩ | ⟨g0, g1, g2, g3, g4, rfl⟩ | ⟨g0, g1, g2, g3, g4, rfl⟩ | ⟨g0, g1, g2, g3, g4, rfl⟩ | ⟨g0, g1, g2, g3, g4, rfl⟩)
  · exfalso; first | omega | grind
  · exfalso; first | omega | grind
  · exfalso; first | omega | grind
  · exfalso; first | omega | grind
  · exfalso; first | omega | grind
  · rfl

theorem rrsame (W : Int) (xs : List Int) (ys : List Int) (s : Int) (b : Int) (l : Int) (p : Int) (q : Int) (W2 : Int) (xs2 : List Int) (ys2 : List Int) (s2 : Int) (b2 : Int) (l2 : Int) (p2 : Int) (q2 : Int) (hp0 : U64s xs) (hp1 : U64s ys) (hp2 : U64s xs2) (hp3 : U64s ys2) (hp4 : (xs.length : Int) ≤ 1000000) (hp5 : (ys.length : Int) ≤ 1000000) (hp6 : (xs2.length : Int) ≤ 1000000) (hp7 : (ys2.length : Int) ≤ 1000000) (hp8 : -9223372036854775808 ≤ W ∧ W ≤ 9223372036854775807) (hp9 : -9223372036854775808 ≤ W2 ∧ W2 ≤ 9223372036854775807) (hp10 : -9223372036854775808 ≤ s ∧ s ≤ 9223372036854775807) (hp11 : -9223372036854775808 ≤ s2 ∧ s2 ≤ 9223372036854775807) (hp12 : -9223372036854775808 ≤ b ∧ b ≤ 9223372036854775807) (hp13 : -9223372036854775808 ≤ b2 ∧ b2 ≤ 9223372036854775807) (hp14 : -9223372036854775808 ≤ l ∧ l ≤ 9223372036854775807) (hp15 : -9223372036854775808 ≤ l2 ∧ l2 ≤ 9223372036854775807) (hp16 : -9223372036854775808 ≤ p ∧ p ≤ 9223372036854775807) (hp17 : -9223372036854775808 ≤ p2 ∧ p2 ≤ 9223372036854775807) (hp18 : -9223372036854775808 ≤ q ∧ q ≤ 9223372036854775807) (hp19 : -9223372036854775808 ≤ q2 ∧ q2 ≤ 9223372036854775807) : Pub Try.prog 24 [.agg (mm W xs ys ++ [.int .i64 s, .int .i64 b, .int .i64 l, .int .i64 p, .int .i64 q]), .agg (mm W2 xs2 ys2 ++ [.int .i64 s2, .int .i64 b2, .int .i64 l2, .int .i64 p2, .int .i64 q2])] (fun rv => ((xs = xs2 ∧ ys = ys2 ∧ W = W2 ∧ s = s2 ∧ b = b2 ∧ l = l2 ∧ p = p2 ∧ q = q2) ∧ rv = .bool true) ∨ ((¬ (xs = xs2 ∧ ys = ys2 ∧ W = W2 ∧ s = s2 ∧ b = b2 ∧ l = l2 ∧ p = p2 ∧ q = q2)) ∧ rv = .bool false)) := by
 refine pub_of TT_ok Try.func24 rfl (by decide) (Nat.le_of_ble_eq_true (by kernel_rfl)) (by kernel_rfl) ?_
 refine rg [] 3 ⟨[(4, .f), (3, .p 1), (2, .p 0)], [(1, .cells (mm W2 xs2 ys2 ++ [.i s2, .i b2, .i l2, .i p2, .i q2]) 54), (0, .cells (mm W xs ys ++ [.i s, .i b, .i l, .i p, .i q]) 54)], 2⟩ [] trivial ?_
 refine xw_seq ?_
 refine reg ?_
 refine rk [] 4 0 ⟨[(9, .agg (mm W2 xs2 ys2)), (7, .agg (mm W xs ys)), (4, .f), (3, .p 1), (2, .p 0)], [(1, .cells (mm W2 xs2 ys2 ++ [.i s2, .i b2, .i l2, .i p2, .i q2]) 54), (0, .cells (mm W xs ys ++ [.i s, .i b, .i l, .i p, .i q]) 54)], 2⟩ [True, True] ⟨trivial, trivial, trivial⟩ ?_
 by_cases h0 : xs = xs2 ∧ ys = ys2 ∧ W = W2
 ·
  refine pc (rsame_1 W xs ys W2 xs2 ys2 ‹_› ‹_› ‹_› ‹_› ‹_› ‹_› ‹_› ‹_› ‹_› ‹_› ‹_›) ?_
  refine rk [] 1 5 ⟨[(5, .t), (4, .f), (3, .p 1), (2, .p 0)], [(1, .cells (mm W2 xs2 ys2 ++ [.i s2, .i b2, .i l2, .i p2, .i q2]) 54), (0, .cells (mm W xs ys ++ [.i s, .i b, .i l, .i p, .i q]) 54)], 2⟩ [] trivial ?_
  refine en ?_
  refine an ?_
  refine xw_seq ?_
  refine reg ?_
  refine rk [(6, .bool ((s == s2) && ((b == b2) && ((l == l2) && true))))] 9 0 ⟨[(19, .bool ((s == s2) && ((b == b2) && ((l == l2) && true)))), (4, .f), (3, .p 1), (2, .p 0)], [(1, .cells (mm W2 xs2 ys2 ++ [.i s2, .i b2, .i l2, .i p2, .i q2]) 54), (0, .cells (mm W xs ys ++ [.i s, .i b, .i l, .i p, .i q]) 54)], 2⟩ [True, True, ((s == s2) && ((b == b2) && ((l == l2) && true))) = ((s == s2) && ((b == b2) && ((l == l2) && true))), True] ⟨trivial, trivial, rfl, trivial, trivial⟩ ?_
  refine splitr 19 (x := ((s == s2) && ((b == b2) && ((l == l2) && true)))) (by kernel_rfl) (fun h1 => ?_) (fun h1 => ?_)
  ·
   replace h1 : (s = s2) ∧ ((b = b2) ∧ (l = l2)) := by first | (simp; done) | simpa using h1
   refine rk [(13, .bool ((p == p2) && ((q == q2) && true)))] 7 9 ⟨[(4, .bool ((p == p2) && ((q == q2) && true)))], [], 2⟩ [True, True, ((p == p2) && ((q == q2) && true)) = ((p == p2) && ((q == q2) && true)), True] ⟨trivial, trivial, rfl, trivial, trivial⟩ ?_
   refine en ?_
   refine an ?_
   refine xw_ret ?_
   by_cases h2 : (p = p2) ∧ (q = q2)
   ·
    exact bk_ret (.bool ((p == p2) && ((q == q2) && true))) (.bool ((p == p2) && ((q == q2) && true))) (.t) (by kernel_rfl) (by kernel_rfl) (wkd [((p == p2) && ((q == q2) && true)) = true] (by kernel_rfl) ⟨(by first | (subst_vars; exact ⟨rfl, rfl, rfl, rfl, rfl, rfl, rfl, rfl⟩) | simp_all | omega), trivial⟩) (Or.inl <| ⟨(by first | (subst_vars; exact ⟨rfl, rfl, rfl, rfl, rfl, rfl, rfl, rfl⟩) | simp_all | omega), rfl⟩)
   ·
    exact bk_ret (.bool ((p == p2) && ((q == q2) && true))) (.bool ((p == p2) && ((q == q2) && true))) (.f) (by kernel_rfl) (by kernel_rfl) (wkd [((p == p2) && ((q == q2) && true)) = false] (by kernel_rfl) ⟨(by first | (subst_vars; exact ⟨rfl, rfl, rfl, rfl, rfl, rfl, rfl, rfl⟩) | simp_all | omega), trivial⟩) (Or.inr <| ⟨(by first | (subst_vars; exact ⟨rfl, rfl, rfl, rfl, rfl, rfl, rfl, rfl⟩) | simp_all | omega), rfl⟩)
  ·
   replace h1 : ¬ ((s = s2) ∧ ((b = b2) ∧ (l = l2))) := by first | (simp; done) | simpa using h1
   refine rk [] 7 9 ⟨[(4, .f)], [], 2⟩ [True] ⟨trivial, trivial⟩ ?_
   refine en ?_
   refine an ?_
   refine xw_ret ?_
   exact bs (.f) (Or.inr <| ⟨(by first | (subst_vars; exact ⟨rfl, rfl, rfl, rfl, rfl, rfl, rfl, rfl⟩) | simp_all | omega), rfl⟩)
 ·
  refine pc (rsame_2 W xs ys W2 xs2 ys2 ‹_› ‹_› ‹_› ‹_› ‹_› ‹_› ‹_› ‹_› ‹_› ‹_› ‹_›) ?_
  refine rk [] 1 5 ⟨[(5, .f), (4, .f), (3, .p 1), (2, .p 0)], [(1, .cells (mm W2 xs2 ys2 ++ [.i s2, .i b2, .i l2, .i p2, .i q2]) 54), (0, .cells (mm W xs ys ++ [.i s, .i b, .i l, .i p, .i q]) 54)], 2⟩ [] trivial ?_
  refine en ?_
  refine an ?_
  refine rg [] 16 ⟨[(4, .f)], [], 2⟩ [True, True] ⟨trivial, trivial, trivial⟩ ?_
  refine xw_ret ?_
  exact bs (.f) (Or.inr <| ⟨(by first | (subst_vars; exact ⟨rfl, rfl, rfl, rfl, rfl, rfl, rfl, rfl⟩) | simp_all | omega), rfl⟩)

theorem rrsame_1 (W : Int) (xs : List Int) (ys : List Int) (s : Int) (b : Int) (l : Int) (p : Int) (q : Int) (W2 : Int) (xs2 : List Int) (ys2 : List Int) (s2 : Int) (b2 : Int) (l2 : Int) (p2 : Int) (q2 : Int) (hp0 : U64s xs) (hp1 : U64s ys) (hp2 : U64s xs2) (hp3 : U64s ys2) (hp4 : (xs.length : Int) ≤ 1000000) (hp5 : (ys.length : Int) ≤ 1000000) (hp6 : (xs2.length : Int) ≤ 1000000) (hp7 : (ys2.length : Int) ≤ 1000000) (hp8 : -9223372036854775808 ≤ W ∧ W ≤ 9223372036854775807) (hp9 : -9223372036854775808 ≤ W2 ∧ W2 ≤ 9223372036854775807) (hp10 : -9223372036854775808 ≤ s ∧ s ≤ 9223372036854775807) (hp11 : -9223372036854775808 ≤ s2 ∧ s2 ≤ 9223372036854775807) (hp12 : -9223372036854775808 ≤ b ∧ b ≤ 9223372036854775807) (hp13 : -9223372036854775808 ≤ b2 ∧ b2 ≤ 9223372036854775807) (hp14 : -9223372036854775808 ≤ l ∧ l ≤ 9223372036854775807) (hp15 : -9223372036854775808 ≤ l2 ∧ l2 ≤ 9223372036854775807) (hp16 : -9223372036854775808 ≤ p ∧ p ≤ 9223372036854775807) (hp17 : -9223372036854775808 ≤ p2 ∧ p2 ≤ 9223372036854775807) (hp18 : -9223372036854775808 ≤ q ∧ q ≤ 9223372036854775807) (hp19 : -9223372036854775808 ≤ q2 ∧ q2 ≤ 9223372036854775807) (hp20 : xs = xs2 ∧ ys = ys2 ∧ W = W2 ∧ s = s2 ∧ b = b2 ∧ l = l2 ∧ p = p2 ∧ q = q2) : Pub Try.prog 24 [.agg (mm W xs ys ++ [.int .i64 s, .int .i64 b, .int .i64 l, .int .i64 p, .int .i64 q]), .agg (mm W2 xs2 ys2 ++ [.int .i64 s2, .int .i64 b2, .int .i64 l2, .int .i64 p2, .int .i64 q2])] (fun rv => rv = .bool true) := by
  refine (rrsame W xs ys s b l p q W2 xs2 ys2 s2 b2 l2 p2 q2 hp0 hp1 hp2 hp3 hp4 hp5 hp6 hp7 hp8 hp9 hp10 hp11 hp12 hp13 hp14 hp15 hp16 hp17 hp18 hp19).mono ?_
  rintro _ (⟨g0, rfl⟩ | ⟨g0, rfl⟩)
  · rfl
  · exfalso; first | omega | grind

theorem rrsame_2 (W : Int) (xs : List Int) (ys : List Int) (s : Int) (b : Int) (l : Int) (p : Int) (q : Int) (W2 : Int) (xs2 : List Int) (ys2 : List Int) (s2 : Int) (b2 : Int) (l2 : Int) (p2 : Int) (q2 : Int) (hp0 : U64s xs) (hp1 : U64s ys) (hp2 : U64s xs2) (hp3 : U64s ys2) (hp4 : (xs.length : Int) ≤ 1000000) (hp5 : (ys.length : Int) ≤ 1000000) (hp6 : (xs2.length : Int) ≤ 1000000) (hp7 : (ys2.length : Int) ≤ 1000000) (hp8 : -9223372036854775808 ≤ W ∧ W ≤ 9223372036854775807) (hp9 : -9223372036854775808 ≤ W2 ∧ W2 ≤ 9223372036854775807) (hp10 : -9223372036854775808 ≤ s ∧ s ≤ 9223372036854775807) (hp11 : -9223372036854775808 ≤ s2 ∧ s2 ≤ 9223372036854775807) (hp12 : -9223372036854775808 ≤ b ∧ b ≤ 9223372036854775807) (hp13 : -9223372036854775808 ≤ b2 ∧ b2 ≤ 9223372036854775807) (hp14 : -9223372036854775808 ≤ l ∧ l ≤ 9223372036854775807) (hp15 : -9223372036854775808 ≤ l2 ∧ l2 ≤ 9223372036854775807) (hp16 : -9223372036854775808 ≤ p ∧ p ≤ 9223372036854775807) (hp17 : -9223372036854775808 ≤ p2 ∧ p2 ≤ 9223372036854775807) (hp18 : -9223372036854775808 ≤ q ∧ q ≤ 9223372036854775807) (hp19 : -9223372036854775808 ≤ q2 ∧ q2 ≤ 9223372036854775807) (hp20 : ¬ (xs = xs2 ∧ ys = ys2 ∧ W = W2 ∧ s = s2 ∧ b = b2 ∧ l = l2 ∧ p = p2 ∧ q = q2)) : Pub Try.prog 24 [.agg (mm W xs ys ++ [.int .i64 s, .int .i64 b, .int .i64 l, .int .i64 p, .int .i64 q]), .agg (mm W2 xs2 ys2 ++ [.int .i64 s2, .int .i64 b2, .int .i64 l2, .int .i64 p2, .int .i64 q2])] (fun rv => rv = .bool false) := by
  refine (rrsame W xs ys s b l p q W2 xs2 ys2 s2 b2 l2 p2 q2 hp0 hp1 hp2 hp3 hp4 hp5 hp6 hp7 hp8 hp9 hp10 hp11 hp12 hp13 hp14 hp15 hp16 hp17 hp18 hp19).mono ?_
  rintro _ (⟨g0, rfl⟩ | ⟨g0, rfl⟩)
  · exfalso; first | omega | grind
  · rfl

end Go.Proofs.Ytcjcljbhjkedgaa.X
