/- Contracts of Go functions: what each returns, for every input that its premises name; no memory of the caller is touched. Printed by a program. -/
import Derived.Test.YtnfkgfibinimmaaXh2
namespace Go.Proofs.Ytnfkgfibinimmaa.X
open Go Go.RowKit
set_option linter.unusedVariables false      -- a premise may serve only to tell which way is taken
set_option linter.unusedSimpArgs false
theorem replayRight (W : Int) (xs ys : List Int) (s b l p q : Int) (L : List (List Ent)) (hp0 : -9223372036854775808 ≤ W ∧ W ≤ 9223372036854775807) (hp1 : U64s xs) (hp2 : U64s ys) (hp3 : -9223372036854775808 ≤ s ∧ s ≤ 9223372036854775807) (hp4 : -9223372036854775808 ≤ b ∧ b ≤ 9223372036854775807) (hp5 : -9223372036854775808 ≤ l ∧ l ≤ 9223372036854775807) (hp6 : -9223372036854775808 ≤ p ∧ p ≤ 9223372036854775807) (hp7 : -9223372036854775808 ≤ q ∧ q ≤ 9223372036854775807) (hp8 : Lgs L) : Pub Try.prog 3 [.agg (mr W xs ys (r5 s b l p q)), .sl false 1 (List.map logS L)] (fun rv => rv = .t) := by
 refine pub_of TT_ok Try.func3 rfl (by decide) (Nat.le_of_ble_eq_true (by kernel_rfl)) (by kernel_rfl) ?_
 refine rg [] 2 ⟨[(4, .f), (2, .p 0), (1, .sl false 1 (List.map logS L))], [(0, .cells (mr W xs ys (r5 s b l p q)) 31)], 1⟩ [] trivial ?_
 refine xw_seq ?_
 refine reg ?_
 refine pc (shown13 ) ?_
 refine rk [] 1 1 ⟨[(5, .t), (4, .f), (2, .p 0), (1, .sl false 1 (List.map logS L))], [(0, .cells (mr W xs ys (r5 s b l p q)) 31)], 1⟩ [] trivial ?_
 refine en ?_
 refine an ?_
 refine xw_seq ?_
 refine reg ?_
 refine rk [] 1 0 ⟨[(12, .agg (mr W xs ys (r5 s b l p q))), (5, .t), (4, .f), (2, .p 0), (1, .sl false 1 (List.map logS L))], [(0, .cells (mr W xs ys (r5 s b l p q)) 31)], 1⟩ [True] ⟨trivial, trivial⟩ ?_
 by_cases h0 : 16 ≤ W ∧ W ≤ 4096 ∧ (xs.length : Int) = W ∧ (ys.length : Int) = W ∧ (s = 0 ∨ s = 1) ∧ 0 ≤ b ∧ b ≤ l ∧ l ≤ 4096 ∧ l = W ∧ ((p = 0 ∧ q = 0) ∨ (0 ≤ p ∧ p ≤ q ∧ q ≤ b)) ∧ W ≤ 200
 ·
  refine pc (few13_1 W xs ys s b l p q ‹_› ‹_› ‹_› ‹_› ‹_› ‹_› ‹_›) ?_
  refine rk [] 1 2 ⟨[(6, .t), (5, .t), (4, .f), (2, .p 0), (1, .sl false 1 (List.map logS L))], [(0, .cells (mr W xs ys (r5 s b l p q)) 31)], 1⟩ [] trivial ?_
  refine en ?_
  refine an ?_
  refine xw_seq ?_
  refine xw_seq ?_
  refine reg ?_
  refine rk [(4, .i ((L).length : Int)), (5, .bool (decide (10 < ((L).length : Int))))] 8 0 ⟨[(21, .bool (decide (10 < ((L).length : Int)))), (5, .t), (4, .f), (2, .p 0), (1, .sl false 1 (List.map logS L))], [(0, .cells (mr W xs ys (r5 s b l p q)) 31)], 1⟩ [((((List.map logS L)).length : Nat) : Int) = ((L).length : Int), (decide (10 < ((L).length : Int))) = (decide (10 < ((L).length : Int))), True] ⟨(by simp), rfl, trivial, trivial⟩ ?_
  refine splitr 21 (x := (decide (10 < ((L).length : Int)))) (by kernel_rfl) (fun h1 => ?_) (fun h1 => ?_)
  ·
   replace h1 : 10 < (L.length : Int) := of_decide_eq_true h1
   refine rk [] 4 8 ⟨[(25, .t), (5, .t), (4, .f), (2, .p 0), (1, .sl false 1 (List.map logS L))], [(0, .cells (mr W xs ys (r5 s b l p q)) 31)], 1⟩ [True] ⟨trivial, trivial⟩ ?_
   refine en ?_
   refine an ?_
   refine ct ?_
   refine rg [] 2 ⟨[(4, .t), (5, .t), (2, .p 0), (1, .sl false 1 (List.map logS L))], [(0, .cells (mr W xs ys (r5 s b l p q)) 31)], 1⟩ [] trivial ?_
   refine xw_ret ?_
   refine an_ret ?_
   exact bs (.t) rfl
  ·
   replace h1 : ¬ (10 < (L.length : Int)) := of_decide_eq_false h1
   refine rk [] 1 8 ⟨[(22, .sl false 1 (List.map logS L)), (21, .f), (5, .t), (4, .f), (2, .p 0), (1, .sl false 1 (List.map logS L))], [(0, .cells (mr W xs ys (r5 s b l p q)) 31)], 1⟩ [] trivial ?_
   refine pc (many L ‹_› (by omega)) ?_
   refine rk [(10, .bool (decide (60 < ((flt L).length : Int))))] 2 10 ⟨[(25, .bool (decide (60 < ((flt L).length : Int)))), (5, .t), (4, .f), (2, .p 0), (1, .sl false 1 (List.map logS L))], [(0, .cells (mr W xs ys (r5 s b l p q)) 31)], 1⟩ [(decide (60 < ((flt L).length : Int))) = (decide (60 < ((flt L).length : Int))), True] ⟨rfl, trivial, trivial⟩ ?_
   refine en ?_
   refine an ?_
   refine xw_cond (b := (decide (60 < ((flt L).length : Int)))) (by kernel_rfl) (fun h2 => ?_) (fun h2 => ?_)
   ·
    replace h2 : 60 < ((flt L).length : Int) := of_decide_eq_true h2
    refine rg [] 2 ⟨[(4, .t), (5, .t), (2, .p 0), (1, .sl false 1 (List.map logS L))], [(0, .cells (mr W xs ys (r5 s b l p q)) 31)], 1⟩ [] trivial ?_
    refine xw_ret ?_
    refine an_ret ?_
    exact bs (.t) rfl
   ·
    replace h2 : ¬ (60 < ((flt L).length : Int)) := of_decide_eq_false h2
    refine xw_skip ?_
    refine an ?_
    refine xw_seq ?_
    refine reg ?_
    refine rk [] 2 0 ⟨[(29, .sl false 1 (List.map logS L)), (28, .agg (mr W xs ys (r5 s b l p q))), (5, .t), (4, .f), (2, .p 0), (1, .sl false 1 (List.map logS L))], [(0, .cells (mr W xs ys (r5 s b l p q)) 31)], 1⟩ [True] ⟨trivial, trivial⟩ ?_
    refine pcall (args := [.agg (mr W xs ys (r5 s b l p q)), .sl false 1 (List.map logS L)]) (args' := [.agg (mr W xs ys (r5 s b l p q)), .sl false 1 (List.map logS L)]) (d := (some 30)) (by kernel_rfl) (rlogs W xs ys s b l p q L (flt L) (by omega) (by omega) (by omega) ‹_› ‹_› (by omega) (by omega) (by omega) ‹_› (by omega) rfl) [(W : Int) = W, (false = true → false = true), ((m64 xs) : List SV) = (m64 xs), (false = true → false = true), ((m64 ys) : List SV) = (m64 ys), (s : Int) = s, (b : Int) = b, (l : Int) = l, (p : Int) = p, (q : Int) = q, (false = true → false = true), ((List.map logS L) : List SV) = (List.map logS L)] (by kernel_rfl) ⟨rfl, id, rfl, id, rfl, rfl, rfl, rfl, rfl, rfl, id, rfl, trivial⟩ (by kernel_rfl) ?_
    rintro _ (⟨L23, h4, h5, h6, rfl⟩)
    ·
     have h7 : ((aX W xs ys s b l (flt L)).length : Int) = W := (a_ok W xs ys s b l (flt L) (by omega) (by omega) (by assumption) (by assumption) (by omega) (by omega)).1
     have h8 : ((aY W xs ys s b l (flt L)).length : Int) = W := (a_ok W xs ys s b l (flt L) (by omega) (by omega) (by assumption) (by assumption) (by omega) (by omega)).2.1
     have h9 : U64s (aX W xs ys s b l (flt L)) := (a_ok W xs ys s b l (flt L) (by omega) (by omega) (by assumption) (by assumption) (by omega) (by omega)).2.2.1
     have h10 : U64s (aY W xs ys s b l (flt L)) := (a_ok W xs ys s b l (flt L) (by omega) (by omega) (by assumption) (by assumption) (by omega) (by omega)).2.2.2.1
     have h11 : b ≤ (aB W xs ys s b l (flt L)) ∧ (aB W xs ys s b l (flt L)) ≤ l := (a_ok W xs ys s b l (flt L) (by omega) (by omega) (by assumption) (by assumption) (by omega) (by omega)).2.2.2.2.1
     have h12 : 0 ≤ (aE W xs ys s b l (flt L)) ∧ (aE W xs ys s b l (flt L)) ≤ 100 := (a_ok W xs ys s b l (flt L) (by omega) (by omega) (by assumption) (by assumption) (by omega) (by omega)).2.2.2.2.2
     have h13 : 0 ≤ (aN W xs ys s b l (flt L)) ∧ (aN W xs ys s b l (flt L)) ≤ ((flt L).length : Int) := aN_le
     have h14 : ((aN W xs ys s b l (flt L)) = ((flt L).length : Int) ∧ (aE W xs ys s b l (flt L)) = 0) ∨ ((aN W xs ys s b l (flt L)) < ((flt L).length : Int) ∧ (aE W xs ys s b l (flt L)) ≠ 0) := aN_iff
     refine rk [] 8 3 ⟨[(9, .i (aE W xs ys s b l (flt L))), (8, .sl false 1 (List.map logS L23)), (7, .p 1), (5, .t), (4, .f), (2, .p 0), (1, .sl false 1 (List.map logS L))], [(1, .cells (mr W (aX W xs ys s b l (flt L)) (aY W xs ys s b l (flt L)) (r5 s (aB W xs ys s b l (flt L)) l p q)) 31), (0, .cells (mr W xs ys (r5 s b l p q)) 31)], 2⟩ [True] ⟨trivial, trivial⟩ ?_
     refine en ?_
     refine an ?_
     refine xw_seq ?_
     refine reg ?_
     refine rk [] 1 0 ⟨[(34, .agg (mr W (aX W xs ys s b l (flt L)) (aY W xs ys s b l (flt L)) (r5 s (aB W xs ys s b l (flt L)) l p q))), (9, .i (aE W xs ys s b l (flt L))), (8, .sl false 1 (List.map logS L23)), (7, .p 1), (5, .t), (4, .f), (2, .p 0), (1, .sl false 1 (List.map logS L))], [(1, .cells (mr W (aX W xs ys s b l (flt L)) (aY W xs ys s b l (flt L)) (r5 s (aB W xs ys s b l (flt L)) l p q)) 31), (0, .cells (mr W xs ys (r5 s b l p q)) 31)], 2⟩ [True] ⟨trivial, trivial⟩ ?_
     refine pc (rbfright_1 W (aX W xs ys s b l (flt L)) (aY W xs ys s b l (flt L)) s (aB W xs ys s b l (flt L)) l p q ‹_› ‹_› (by omega) ‹_› ‹_› ‹_› (by omega)) ?_
     refine rk [] 1 2 ⟨[(10, .t), (9, .i (aE W xs ys s b l (flt L))), (8, .sl false 1 (List.map logS L23)), (7, .p 1), (5, .t), (4, .f), (2, .p 0), (1, .sl false 1 (List.map logS L))], [(1, .cells (mr W (aX W xs ys s b l (flt L)) (aY W xs ys s b l (flt L)) (r5 s (aB W xs ys s b l (flt L)) l p q)) 31), (0, .cells (mr W xs ys (r5 s b l p q)) 31)], 2⟩ [] trivial ?_
     refine en ?_
     refine an ?_
     refine xw_seq ?_
     refine reg ?_
     refine rk [(6, .i ((L23).length : Int)), (8, .i ((L).length : Int)), (9, .t), (13, .bool ((aE W xs ys s b l (flt L)) == 0))] 15 0 ⟨[(50, .sl false 1 (List.map logS L23)), (49, .bool ((aE W xs ys s b l (flt L)) == 0)), (47, .t), (8, .sl false 1 (List.map logS L23)), (7, .p 1), (4, .f), (2, .p 0), (1, .sl false 1 (List.map logS L))], [(1, .cells (mr W (aX W xs ys s b l (flt L)) (aY W xs ys s b l (flt L)) (r5 s (aB W xs ys s b l (flt L)) l p q)) 31), (0, .cells (mr W xs ys (r5 s b l p q)) 31)], 2⟩ [True, ((((List.map logS L23)).length : Nat) : Int) = ((L23).length : Int), ((((List.map logS L)).length : Nat) : Int) = ((L).length : Int), (((L23).length : Int) == ((L).length : Int)) = true, True, ((aE W xs ys s b l (flt L)) == 0) = ((aE W xs ys s b l (flt L)) == 0)] ⟨trivial, (by simp), (by simp), beq_iff_eq.2 (by omega), trivial, rfl, trivial⟩ ?_
     refine pc (many L23 ‹_› (by omega)) ?_
     refine rk [(16, .bool (((flt L23).length : Int) == 0))] 1 16 ⟨[(52, .bool (((flt L23).length : Int) == 0)), (49, .bool ((aE W xs ys s b l (flt L)) == 0)), (47, .t), (8, .sl false 1 (List.map logS L23)), (7, .p 1), (4, .f), (2, .p 0), (1, .sl false 1 (List.map logS L))], [(1, .cells (mr W (aX W xs ys s b l (flt L)) (aY W xs ys s b l (flt L)) (r5 s (aB W xs ys s b l (flt L)) l p q)) 31), (0, .cells (mr W xs ys (r5 s b l p q)) 31)], 2⟩ [(((flt L23).length : Int) == 0) = (((flt L23).length : Int) == 0)] ⟨rfl, trivial⟩ ?_
     by_cases h15 : (aE W xs ys s b l (flt L)) = 0
     ·
      refine rk [(17, .t)] 4 17 ⟨[(56, .sl false 1 (List.map logS L23)), (55, .t), (7, .p 1), (4, .f), (2, .p 0), (1, .sl false 1 (List.map logS L))], [(1, .cells (mr W (aX W xs ys s b l (flt L)) (aY W xs ys s b l (flt L)) (r5 s (aB W xs ys s b l (flt L)) l p q)) 31), (0, .cells (mr W xs ys (r5 s b l p q)) 31)], 2⟩ [(((aE W xs ys s b l (flt L)) == 0) == (((flt L23).length : Int) == 0)) = true, True] ⟨(by rw [show ((aE W xs ys s b l (flt L)) == 0) = true from (by first | exact decide_eq_true (by omega) | exact decide_eq_false (by omega) | (simp; done) | (simp; omega) | simp_all | grind), show (((flt L23).length : Int) == 0) = true from (by first | exact decide_eq_true (by omega) | exact decide_eq_false (by omega) | (simp; done) | (simp; omega) | simp_all | grind)]; rfl), trivial, trivial⟩ ?_
      refine pc (many L23 ‹_› (by omega)) ?_
      refine rk [] 1 22 ⟨[(58, .sl false 1 (List.map logS L)), (57, .i ((flt L23).length : Int)), (55, .t), (7, .p 1), (4, .f), (2, .p 0)], [(1, .cells (mr W (aX W xs ys s b l (flt L)) (aY W xs ys s b l (flt L)) (r5 s (aB W xs ys s b l (flt L)) l p q)) 31), (0, .cells (mr W xs ys (r5 s b l p q)) 31)], 2⟩ [] trivial ?_
      refine pc (many L ‹_› (by omega)) ?_
      refine rk [(24, .t), (31, .t)] 10 24 ⟨[(4, .t)], [], 2⟩ [(decide (((flt L23).length : Int) ≤ ((flt L).length : Int))) = true, True, True, True, ((p == p) && ((q == q) && true)) = true, True] ⟨decide_eq_true (by omega), trivial, trivial, trivial, (by simp <;> omega), trivial, trivial⟩ ?_
      refine en ?_
      refine an ?_
      refine xw_ret ?_
      exact bs (.t) rfl
     ·
      refine rk [(17, .t)] 4 17 ⟨[(56, .sl false 1 (List.map logS L23)), (55, .t), (7, .p 1), (4, .f), (2, .p 0), (1, .sl false 1 (List.map logS L))], [(1, .cells (mr W (aX W xs ys s b l (flt L)) (aY W xs ys s b l (flt L)) (r5 s (aB W xs ys s b l (flt L)) l p q)) 31), (0, .cells (mr W xs ys (r5 s b l p q)) 31)], 2⟩ [(((aE W xs ys s b l (flt L)) == 0) == (((flt L23).length : Int) == 0)) = true, True] ⟨(by rw [show ((aE W xs ys s b l (flt L)) == 0) = false from (by first | exact decide_eq_true (by omega) | exact decide_eq_false (by omega) | (simp; done) | (simp; omega) | simp_all | grind), show (((flt L23).length : Int) == 0) = false from (by first | exact decide_eq_true (by omega) | exact decide_eq_false (by omega) | (simp; done) | (simp; omega) | simp_all | grind)]; rfl), trivial, trivial⟩ ?_
      refine pc (many L23 ‹_› (by omega)) ?_
      refine rk [] 1 22 ⟨[(58, .sl false 1 (List.map logS L)), (57, .i ((flt L23).length : Int)), (55, .t), (7, .p 1), (4, .f), (2, .p 0)], [(1, .cells (mr W (aX W xs ys s b l (flt L)) (aY W xs ys s b l (flt L)) (r5 s (aB W xs ys s b l (flt L)) l p q)) 31), (0, .cells (mr W xs ys (r5 s b l p q)) 31)], 2⟩ [] trivial ?_
      refine pc (many L ‹_› (by omega)) ?_
      refine rk [(24, .t), (31, .t)] 10 24 ⟨[(4, .t)], [], 2⟩ [(decide (((flt L23).length : Int) ≤ ((flt L).length : Int))) = true, True, True, True, ((p == p) && ((q == q) && true)) = true, True] ⟨decide_eq_true (by omega), trivial, trivial, trivial, (by simp <;> omega), trivial, trivial⟩ ?_
      refine en ?_
      refine an ?_
      refine xw_ret ?_
      exact bs (.t) rfl
 ·
  refine pc (few13_2 W xs ys s b l p q ‹_› ‹_› ‹_› ‹_› ‹_› ‹_› ‹_›) ?_
  refine rk [] 1 2 ⟨[(6, .f), (5, .t), (4, .f), (2, .p 0), (1, .sl false 1 (List.map logS L))], [(0, .cells (mr W xs ys (r5 s b l p q)) 31)], 1⟩ [] trivial ?_
  refine en ?_
  refine an ?_
  refine xw_seq ?_
  refine rg [] 12 ⟨[(25, .t), (5, .t), (4, .f), (2, .p 0), (1, .sl false 1 (List.map logS L))], [(0, .cells (mr W xs ys (r5 s b l p q)) 31)], 1⟩ [True, True] ⟨trivial, trivial, trivial⟩ ?_
  refine ct ?_
  refine rg [] 2 ⟨[(4, .t), (5, .t), (2, .p 0), (1, .sl false 1 (List.map logS L))], [(0, .cells (mr W xs ys (r5 s b l p q)) 31)], 1⟩ [] trivial ?_
  refine xw_ret ?_
  refine an_ret ?_
  exact bs (.t) rfl

end Go.Proofs.Ytnfkgfibinimmaa.X
