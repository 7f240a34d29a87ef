/- Contracts of Go functions: what each returns, for every input that its premises name; no memory of the caller is touched. Printed by a program. -/
import Derived.Test.YtlapjlbmhaalbaaXd1
namespace Go.Proofs.Ytlapjlbmhaalbaa.X
open Go Go.RowKit
set_option linter.unusedVariables false      -- a premise may serve only to tell which way is taken
set_option linter.unusedSimpArgs false
theorem wfiller (W : Int) (xs ys : List Int) (a : Int) (hp0 : 16 ≤ W ∧ W ≤ 4096) (hp1 : (xs.length : Int) = W) (hp2 : (ys.length : Int) = W) (hp3 : U64s xs) (hp4 : U64s ys) (hp5 : 0 ≤ a ∧ a ≤ 18446744073709551615) : Pub Try.prog 23 [.agg (mm W xs ys), .u a] (fun rv => rv = .bool (isFil W xs ys a)) := by
 refine pub_of TT_ok Try.func23 rfl (by decide) (Nat.le_of_ble_eq_true (by kernel_rfl)) (by kernel_rfl) ?_
 refine rg [] 2 ⟨[(4, .f), (2, .p 0), (1, .u a)], [(0, .cells (mm W xs ys) 25)], 1⟩ [] trivial ?_
 refine xw_seq ?_
 refine reg ?_
 refine rk [] 2 0 ⟨[(9, .u a), (8, .agg (mm W xs ys)), (4, .f)], [], 1⟩ [True] ⟨trivial, trivial⟩ ?_
 by_cases h0 : (oErr W xs ys a) = 0
 ·
  refine pc (oat_1 W xs ys a ‹_› ‹_› ‹_› ‹_› ‹_› ‹_› ‹_›) ?_
  obtain ⟨h1, h2, h3⟩ := oErr_ok W xs ys a ‹_›
  refine rk [] 6 3 ⟨[(5, .p 1), (4, .f)], [(1, .cells [.i (hT xs ys a), .i (hL xs ys a), .u (hM xs ys a)] 49)], 2⟩ [True] ⟨trivial, trivial⟩ ?_
  refine en ?_
  refine an ?_
  refine rg [(2, .bool ((ldw xs ys a / 72057594037927936) == 255))] 4 ⟨[(4, .bool ((hT xs ys a) == 255))], [], 2⟩ [True, ((ldw xs ys a / 72057594037927936) == 255) = ((ldw xs ys a / 72057594037927936) == 255)] ⟨trivial, rfl, trivial⟩ ?_
  refine xw_ret ?_
  by_cases h4 : (ldw xs ys a / 72057594037927936) = 255
  ·
   exact br (.bool ((ldw xs ys a / 72057594037927936) == 255)) (.bool (isFil W xs ys a)) (wkd [((ldw xs ys a / 72057594037927936) == 255) = (isFil W xs ys a)] (by kernel_rfl) ⟨(by symm; unfold isFil; first | (apply decide_eq_true; omega) | (apply decide_eq_false; omega) | (rw [Bool.eq_iff_iff]; simp; omega)), trivial⟩) rfl
  ·
   exact br (.bool ((ldw xs ys a / 72057594037927936) == 255)) (.bool (isFil W xs ys a)) (wkd [((ldw xs ys a / 72057594037927936) == 255) = (isFil W xs ys a)] (by kernel_rfl) ⟨(by symm; unfold isFil; first | (apply decide_eq_true; omega) | (apply decide_eq_false; omega) | (rw [Bool.eq_iff_iff]; simp; omega)), trivial⟩) rfl
 ·
  refine pc (oat_2 W xs ys a ‹_› ‹_› ‹_› ‹_› ‹_› ‹_› ‹_›) ?_
  have h1 : (oErr W xs ys a) = 2 ∨ (oErr W xs ys a) = 10 := oErr_no W xs ys a (by omega)
  refine rk [] 6 3 ⟨[(5, .p 1), (4, .f)], [(1, .cells [.i 0, .i 0, .u 0] 49)], 2⟩ [True] ⟨trivial, trivial⟩ ?_
  refine en ?_
  refine an ?_
  refine rg [(2, .f)] 4 ⟨[(4, .f)], [], 2⟩ [True, (0 == 255) = false] ⟨trivial, beq_eq_false_iff_ne.2 (by omega), trivial⟩ ?_
  refine xw_ret ?_
  exact br (.f) (.bool (isFil W xs ys a)) (wkd [false = (isFil W xs ys a)] (by kernel_rfl) ⟨(by symm; unfold isFil; first | (apply decide_eq_true; omega) | (apply decide_eq_false; omega) | (rw [Bool.eq_iff_iff]; simp; omega)), trivial⟩) rfl

set_option maxHeartbeats 8000000 in
theorem wobjects (W : Int) (xs ys : List Int) (s lim : Int) (hp0 : 16 ≤ W ∧ W ≤ 4096) (hp1 : (xs.length : Int) = W) (hp2 : (ys.length : Int) = W) (hp3 : U64s xs) (hp4 : U64s ys) (hp5 : -9223372036854775808 ≤ s ∧ s ≤ 9223372036854775807) (hp6 : -9223372036854775808 ≤ lim ∧ lim ≤ 9223372036854775807) : Pub Try.prog 10 [.agg (mm W xs ys), .i s, .i lim] (fun rv => ((¬ (0 ≤ s ∧ s ≤ 1 ∧ 0 ≤ lim ∧ lim ≤ W)) ∧ rv = .tup [.nils, .i 1]) ∨ ((0 ≤ s ∧ s ≤ 1 ∧ 0 ≤ lim ∧ lim ≤ W) ∧ ((wE W xs ys s lim) = 0) ∧ rv = .tup [.sl false 1 (m64 (wO W xs ys s lim)), .i 0]) ∨ ((0 ≤ s ∧ s ≤ 1 ∧ 0 ≤ lim ∧ lim ≤ W) ∧ (¬ ((wE W xs ys s lim) = 0)) ∧ rv = .tup [.nils, .i (wE W xs ys s lim)])) := by
 have hE : wE W xs ys s lim = (wf W xs ys s lim 0).1 := rfl
 have hA : wA W xs ys s lim = [] ++ (wf W xs ys s lim 0).2 := rfl
 refine pub_of TT_ok Try.func10 rfl (by decide) (Nat.le_of_ble_eq_true (by kernel_rfl)) (by kernel_rfl) ?_
 refine rg [] 3 ⟨[(7, .i 0), (6, .nils), (3, .p 0), (1, .i s), (2, .i lim)], [(0, .cells (mm W xs ys) 25)], 1⟩ [] trivial ?_
 refine xw_seq ?_
 refine reg ?_
 refine rk [] 3 0 ⟨[(13, .i lim), (12, .i s), (11, .agg (mm W xs ys)), (7, .i 0), (6, .nils), (3, .p 0)], [(0, .cells (mm W xs ys) 25)], 1⟩ [True] ⟨trivial, trivial⟩ ?_
 refine callx (f := 18) (args := [.agg (mm W xs ys), .i s, .i lim]) (d := (some 14)) (by kernel_rfl) (xcall_of TT_ok Try.func18 rfl (by decide) (Nat.le_of_ble_eq_true (by kernel_rfl)) ?_)
 refine rg [] 3 ⟨[(7, .i 0), (6, .nils), (3, .p 1), (1, .i s), (2, .i lim)], [(1, .cells (mm W xs ys) 25), (0, .cells (mm W xs ys) 25)], 2⟩ [] trivial ?_
 refine xw_scope (α := {q : Int × List Int // (0 ≤ s ∧ s ≤ 1 ∧ 0 ≤ lim ∧ lim ≤ W) ∧ (0 ≤ q.1) ∧ (q.1 ≤ lim) ∧ ((wE W xs ys s lim) = (wf W xs ys s lim q.1).1) ∧ ((wA W xs ys s lim) = q.2 ++ (wf W xs ys s lim q.1).2) ∧ (U64s q.2) ∧ ((q.2.length : Int) ≤ q.1)}) 0 rfl (fun p => ⟨[(7, .i 0), (6, .nils), (3, .p 1), (1, .i s), (2, .i lim), (8, .own 2), (9, .i p.1.1)], [(2, .row 1 35 (m64 p.1.2)), (1, .cells (mm W xs ys) 25), (0, .cells (mm W xs ys) 25)], 3⟩) (fun p => (lim - p.1.1).toNat) ?_ ?_
 ·
  refine xw_seq ?_
  refine xw_seq ?_
  refine reg ?_
  refine rk [(1, .bool (decide (s < 0)))] 3 0 ⟨[(15, .bool (decide (s < 0))), (14, .bool (decide (s < 0))), (13, .i s), (7, .i 0), (6, .nils), (3, .p 1), (1, .i s), (2, .i lim)], [(1, .cells (mm W xs ys) 25), (0, .cells (mm W xs ys) 25)], 2⟩ [(decide (s < 0)) = (decide (s < 0))] ⟨rfl, trivial⟩ ?_
  refine splitr 15 (x := (decide (s < 0))) (by kernel_rfl) (fun h0 => ?_) (fun h0 => ?_)
  ·
   replace h0 : s < 0 := of_decide_eq_true h0
   refine rk [] 13 3 ⟨[(28, .t), (27, .tup []), (26, .tup []), (25, .tup []), (24, .tup []), (23, .t), (22, .t), (21, .tup []), (20, .tup []), (19, .t), (18, .t), (17, .tup []), (16, .tup []), (15, .t), (14, .bool (decide (s < 0))), (13, .i s), (7, .i 0), (6, .nils), (3, .p 1), (1, .i s), (2, .i lim)], [(1, .cells (mm W xs ys) 25), (0, .cells (mm W xs ys) 25)], 2⟩ [True, True, True] ⟨trivial, trivial, trivial, trivial⟩ ?_
   refine en ?_
   refine an ?_
   refine ct ?_
   refine rg [] 2 ⟨[(7, .i 1), (6, .nils), (28, .t), (27, .tup []), (26, .tup []), (25, .tup []), (24, .tup []), (23, .t), (22, .t), (21, .tup []), (20, .tup []), (19, .t), (18, .t), (17, .tup []), (16, .tup []), (15, .t), (14, .bool (decide (s < 0))), (13, .i s), (3, .p 1), (1, .i s), (2, .i lim)], [(1, .cells (mm W xs ys) 25), (0, .cells (mm W xs ys) 25)], 2⟩ [] trivial ?_
   refine xw_ret ?_
   refine an_ret ?_
   refine j0_ret ?_
   refine ⟨.tup [.nils, .i 1], by kernel_rfl, ?_⟩
   show XOi _ _ _ _ _ _ _ ⟨[(14, .tup [.nils, .int .i64 1]), (13, .int .i64 lim), (12, .int .i64 s), (11, .agg (mm W xs ys)), (7, .int .i64 0), (6, .nils), (3, .loc 0 0)], [(1, .cells (mm W xs ys) 25), (0, .cells (mm W xs ys) 25)], 2⟩
   refine rk [] 5 4 ⟨[(9, .i 1), (8, .nils), (7, .i 0), (6, .nils), (3, .p 0)], [(0, .cells (mm W xs ys) 25)], 2⟩ [] trivial ?_
   refine en ?_
   refine an ?_
   refine xw_seq ?_
   refine reg ?_
   refine rk [] 2 0 ⟨[(18, .fn 22 [] [.p 0]), (17, .nils), (9, .i 1), (7, .i 0), (6, .nils)], [(0, .cells (mm W xs ys) 25)], 2⟩ [] trivial ?_
   refine callx (f := 21) (args := [.nils, .fn 22 [] [.p 0]]) (d := (some 19)) (by kernel_rfl) (xcall_of TT_ok Try.func21 rfl (by decide) (Nat.le_of_ble_eq_true (by kernel_rfl)) ?_)
   refine rg [] 1 ⟨[(4, .nils), (0, .nils), (1, .fn 22 [] [.p 0])], [(0, .cells (mm W xs ys) 25)], 2⟩ [] trivial ?_
   refine xw_seq ?_
   refine reg ?_
   refine rk [] 2 0 ⟨[(9, .fn 22 [] [.p 0]), (8, .nils), (4, .nils), (0, .nils), (1, .fn 22 [] [.p 0])], [(0, .cells (mm W xs ys) 25)], 2⟩ [] trivial ?_
   refine callx (f := 38) (args := [.nils, .fn 22 [] [.p 0]]) (d := (some 10)) (by kernel_rfl) (xcall_of TT_ok Try.func38 rfl (by decide) (Nat.le_of_ble_eq_true (by kernel_rfl)) ?_)
   refine rg [] 1 ⟨[(4, .i 0), (0, .nils), (1, .fn 22 [] [.p 0])], [(0, .cells (mm W xs ys) 25)], 2⟩ [] trivial ?_
   refine xw_seq ?_
   refine rg [(1, .i 0)] 3 ⟨[(8, .i 0), (7, .i 0), (4, .i 0), (0, .nils), (1, .fn 22 [] [.p 0])], [(0, .cells (mm W xs ys) 25)], 2⟩ [(0 : Int) = 0] ⟨rfl, trivial⟩ ?_
   refine xw_block ?_
   refine xw_unroll 1 ?_
   refine ul_step ?_
   refine rg [(0, .f)] 1 ⟨[(9, .f), (8, .i 0), (7, .i 0), (4, .i 0), (0, .nils), (1, .fn 22 [] [.p 0])], [(0, .cells (mm W xs ys) 25)], 2⟩ [(decide (0 < 0)) = false] ⟨decide_eq_false (by omega), trivial⟩ ?_
   refine xw_seq ?_
   refine cf ?_
   refine xw_exit ?_
   refine an_exit ?_
   refine agu_exit ?_
   refine ib_same ?_
   refine an ?_
   refine rg [] 1 ⟨[(4, .i (-1))], [(0, .cells (mm W xs ys) 25)], 2⟩ [] trivial ?_
   refine xw_ret ?_
   refine ⟨.i (-1), by kernel_rfl, ?_⟩
   show XOi _ _ _ _ _ _ _ ⟨[(10, .int .i64 (-1)), (9, .fn 22 [] [.loc 0 0]), (8, .nils), (4, .nils), (0, .nils), (1, .fn 22 [] [.loc 0 0])], [(0, .cells (mm W xs ys) 25)], 2⟩
   refine rk [] 1 3 ⟨[(5, .i (-1)), (4, .nils), (0, .nils), (1, .fn 22 [] [.p 0])], [(0, .cells (mm W xs ys) 25)], 2⟩ [] trivial ?_
   refine en ?_
   refine an ?_
   refine xw_seq ?_
   refine rg [(1, .t)] 2 ⟨[(12, .t), (5, .i (-1)), (4, .nils), (0, .nils), (1, .fn 22 [] [.p 0])], [(0, .cells (mm W xs ys) 25)], 2⟩ [((-1) == (-1)) = true] ⟨beq_iff_eq.2 (by omega), trivial⟩ ?_
   refine ct ?_
   refine rg [] 2 ⟨[(4, .nils), (5, .i (-1)), (0, .nils), (1, .fn 22 [] [.p 0])], [(0, .cells (mm W xs ys) 25)], 2⟩ [] trivial ?_
   refine xw_ret ?_
   refine an_ret ?_
   refine ⟨.nils, by kernel_rfl, ?_⟩
   show XOi _ _ _ _ _ _ _ ⟨[(19, .nils), (18, .fn 22 [] [.loc 0 0]), (17, .nils), (9, .int .i64 1), (7, .int .i64 0), (6, .nils)], [(0, .cells (mm W xs ys) 25)], 2⟩
   refine rk [] 3 3 ⟨[(7, .i 1), (6, .nils)], [], 2⟩ [] trivial ?_
   refine en ?_
   refine an ?_
   refine xw_ret ?_
   exact bs (.tup [.nils, .i 1]) (Or.inl <| ⟨(by omega), rfl⟩)
  ·
   replace h0 : ¬ (s < 0) := of_decide_eq_false h0
   refine rk [(4, .bool (decide (1 < s)))] 4 3 ⟨[(19, .bool (decide (1 < s))), (18, .bool (decide (1 < s))), (17, .bool (decide (1 < s))), (16, .i s), (15, .f), (14, .bool (decide (s < 0))), (13, .i s), (7, .i 0), (6, .nils), (3, .p 1), (1, .i s), (2, .i lim)], [(1, .cells (mm W xs ys) 25), (0, .cells (mm W xs ys) 25)], 2⟩ [(decide (1 < s)) = (decide (1 < s)), True] ⟨rfl, trivial, trivial⟩ ?_
   refine splitr 19 (x := (decide (1 < s))) (by kernel_rfl) (fun h1 => ?_) (fun h1 => ?_)
   ·
    replace h1 : 1 < s := of_decide_eq_true h1
    refine rk [] 9 7 ⟨[(28, .t), (27, .tup []), (26, .tup []), (25, .tup []), (24, .tup []), (23, .t), (22, .t), (21, .tup []), (20, .tup []), (19, .t), (18, .bool (decide (1 < s))), (17, .bool (decide (1 < s))), (16, .i s), (15, .f), (14, .bool (decide (s < 0))), (13, .i s), (7, .i 0), (6, .nils), (3, .p 1), (1, .i s), (2, .i lim)], [(1, .cells (mm W xs ys) 25), (0, .cells (mm W xs ys) 25)], 2⟩ [True, True] ⟨trivial, trivial, trivial⟩ ?_
    refine en ?_
    refine an ?_
    refine ct ?_
    refine rg [] 2 ⟨[(7, .i 1), (6, .nils), (28, .t), (27, .tup []), (26, .tup []), (25, .tup []), (24, .tup []), (23, .t), (22, .t), (21, .tup []), (20, .tup []), (19, .t), (18, .bool (decide (1 < s))), (17, .bool (decide (1 < s))), (16, .i s), (15, .f), (14, .bool (decide (s < 0))), (13, .i s), (3, .p 1), (1, .i s), (2, .i lim)], [(1, .cells (mm W xs ys) 25), (0, .cells (mm W xs ys) 25)], 2⟩ [] trivial ?_
    refine xw_ret ?_
    refine an_ret ?_
    refine j0_ret ?_
    refine ⟨.tup [.nils, .i 1], by kernel_rfl, ?_⟩
    show XOi _ _ _ _ _ _ _ ⟨[(14, .tup [.nils, .int .i64 1]), (13, .int .i64 lim), (12, .int .i64 s), (11, .agg (mm W xs ys)), (7, .int .i64 0), (6, .nils), (3, .loc 0 0)], [(1, .cells (mm W xs ys) 25), (0, .cells (mm W xs ys) 25)], 2⟩
    refine rk [] 5 4 ⟨[(9, .i 1), (8, .nils), (7, .i 0), (6, .nils), (3, .p 0)], [(0, .cells (mm W xs ys) 25)], 2⟩ [] trivial ?_
    refine en ?_
    refine an ?_
    refine xw_seq ?_
    refine reg ?_
    refine rk [] 2 0 ⟨[(18, .fn 22 [] [.p 0]), (17, .nils), (9, .i 1), (7, .i 0), (6, .nils)], [(0, .cells (mm W xs ys) 25)], 2⟩ [] trivial ?_
    refine callx (f := 21) (args := [.nils, .fn 22 [] [.p 0]]) (d := (some 19)) (by kernel_rfl) (xcall_of TT_ok Try.func21 rfl (by decide) (Nat.le_of_ble_eq_true (by kernel_rfl)) ?_)
    refine rg [] 1 ⟨[(4, .nils), (0, .nils), (1, .fn 22 [] [.p 0])], [(0, .cells (mm W xs ys) 25)], 2⟩ [] trivial ?_
    refine xw_seq ?_
    refine reg ?_
    refine rk [] 2 0 ⟨[(9, .fn 22 [] [.p 0]), (8, .nils), (4, .nils), (0, .nils), (1, .fn 22 [] [.p 0])], [(0, .cells (mm W xs ys) 25)], 2⟩ [] trivial ?_
    refine callx (f := 38) (args := [.nils, .fn 22 [] [.p 0]]) (d := (some 10)) (by kernel_rfl) (xcall_of TT_ok Try.func38 rfl (by decide) (Nat.le_of_ble_eq_true (by kernel_rfl)) ?_)
    refine rg [] 1 ⟨[(4, .i 0), (0, .nils), (1, .fn 22 [] [.p 0])], [(0, .cells (mm W xs ys) 25)], 2⟩ [] trivial ?_
    refine xw_seq ?_
    refine rg [(1, .i 0)] 3 ⟨[(8, .i 0), (7, .i 0), (4, .i 0), (0, .nils), (1, .fn 22 [] [.p 0])], [(0, .cells (mm W xs ys) 25)], 2⟩ [(0 : Int) = 0] ⟨rfl, trivial⟩ ?_
    refine xw_block ?_
    refine xw_unroll 1 ?_
    refine ul_step ?_
    refine rg [(0, .f)] 1 ⟨[(9, .f), (8, .i 0), (7, .i 0), (4, .i 0), (0, .nils), (1, .fn 22 [] [.p 0])], [(0, .cells (mm W xs ys) 25)], 2⟩ [(decide (0 < 0)) = false] ⟨decide_eq_false (by omega), trivial⟩ ?_
    refine xw_seq ?_
    refine cf ?_
    refine xw_exit ?_
    refine an_exit ?_
    refine agu_exit ?_
    refine ib_same ?_
    refine an ?_
    refine rg [] 1 ⟨[(4, .i (-1))], [(0, .cells (mm W xs ys) 25)], 2⟩ [] trivial ?_
    refine xw_ret ?_
    refine ⟨.i (-1), by kernel_rfl, ?_⟩
    show XOi _ _ _ _ _ _ _ ⟨[(10, .int .i64 (-1)), (9, .fn 22 [] [.loc 0 0]), (8, .nils), (4, .nils), (0, .nils), (1, .fn 22 [] [.loc 0 0])], [(0, .cells (mm W xs ys) 25)], 2⟩
    refine rk [] 1 3 ⟨[(5, .i (-1)), (4, .nils), (0, .nils), (1, .fn 22 [] [.p 0])], [(0, .cells (mm W xs ys) 25)], 2⟩ [] trivial ?_
    refine en ?_
    refine an ?_
    refine xw_seq ?_
    refine rg [(1, .t)] 2 ⟨[(12, .t), (5, .i (-1)), (4, .nils), (0, .nils), (1, .fn 22 [] [.p 0])], [(0, .cells (mm W xs ys) 25)], 2⟩ [((-1) == (-1)) = true] ⟨beq_iff_eq.2 (by omega), trivial⟩ ?_
    refine ct ?_
    refine rg [] 2 ⟨[(4, .nils), (5, .i (-1)), (0, .nils), (1, .fn 22 [] [.p 0])], [(0, .cells (mm W xs ys) 25)], 2⟩ [] trivial ?_
    refine xw_ret ?_
    refine an_ret ?_
    refine ⟨.nils, by kernel_rfl, ?_⟩
    show XOi _ _ _ _ _ _ _ ⟨[(19, .nils), (18, .fn 22 [] [.loc 0 0]), (17, .nils), (9, .int .i64 1), (7, .int .i64 0), (6, .nils)], [(0, .cells (mm W xs ys) 25)], 2⟩
    refine rk [] 3 3 ⟨[(7, .i 1), (6, .nils)], [], 2⟩ [] trivial ?_
    refine en ?_
    refine an ?_
    refine xw_ret ?_
    exact bs (.tup [.nils, .i 1]) (Or.inl <| ⟨(by omega), rfl⟩)
   ·
    replace h1 : ¬ (1 < s) := of_decide_eq_false h1
    refine rk [(8, .bool (decide (lim < 0)))] 4 7 ⟨[(23, .bool (decide (lim < 0))), (22, .bool (decide (lim < 0))), (21, .bool (decide (lim < 0))), (20, .i lim), (19, .f), (18, .bool (decide (1 < s))), (17, .bool (decide (1 < s))), (16, .i s), (15, .f), (14, .bool (decide (s < 0))), (13, .i s), (7, .i 0), (6, .nils), (3, .p 1), (1, .i s), (2, .i lim)], [(1, .cells (mm W xs ys) 25), (0, .cells (mm W xs ys) 25)], 2⟩ [(decide (lim < 0)) = (decide (lim < 0)), True] ⟨rfl, trivial, trivial⟩ ?_
    refine splitr 23 (x := (decide (lim < 0))) (by kernel_rfl) (fun h2 => ?_) (fun h2 => ?_)
    ·
     replace h2 : lim < 0 := of_decide_eq_true h2
     refine rk [] 5 11 ⟨[(28, .t), (27, .tup []), (26, .tup []), (25, .tup []), (24, .tup []), (23, .t), (22, .bool (decide (lim < 0))), (21, .bool (decide (lim < 0))), (20, .i lim), (19, .f), (18, .bool (decide (1 < s))), (17, .bool (decide (1 < s))), (16, .i s), (15, .f), (14, .bool (decide (s < 0))), (13, .i s), (7, .i 0), (6, .nils), (3, .p 1), (1, .i s), (2, .i lim)], [(1, .cells (mm W xs ys) 25), (0, .cells (mm W xs ys) 25)], 2⟩ [True] ⟨trivial, trivial⟩ ?_
     refine en ?_
     refine an ?_
     refine ct ?_
     refine rg [] 2 ⟨[(7, .i 1), (6, .nils), (28, .t), (27, .tup []), (26, .tup []), (25, .tup []), (24, .tup []), (23, .t), (22, .bool (decide (lim < 0))), (21, .bool (decide (lim < 0))), (20, .i lim), (19, .f), (18, .bool (decide (1 < s))), (17, .bool (decide (1 < s))), (16, .i s), (15, .f), (14, .bool (decide (s < 0))), (13, .i s), (3, .p 1), (1, .i s), (2, .i lim)], [(1, .cells (mm W xs ys) 25), (0, .cells (mm W xs ys) 25)], 2⟩ [] trivial ?_
     refine xw_ret ?_
     refine an_ret ?_
     refine j0_ret ?_
     refine ⟨.tup [.nils, .i 1], by kernel_rfl, ?_⟩
     show XOi _ _ _ _ _ _ _ ⟨[(14, .tup [.nils, .int .i64 1]), (13, .int .i64 lim), (12, .int .i64 s), (11, .agg (mm W xs ys)), (7, .int .i64 0), (6, .nils), (3, .loc 0 0)], [(1, .cells (mm W xs ys) 25), (0, .cells (mm W xs ys) 25)], 2⟩
     refine rk [] 5 4 ⟨[(9, .i 1), (8, .nils), (7, .i 0), (6, .nils), (3, .p 0)], [(0, .cells (mm W xs ys) 25)], 2⟩ [] trivial ?_
     refine en ?_
     refine an ?_
     refine xw_seq ?_
     refine reg ?_
     refine rk [] 2 0 ⟨[(18, .fn 22 [] [.p 0]), (17, .nils), (9, .i 1), (7, .i 0), (6, .nils)], [(0, .cells (mm W xs ys) 25)], 2⟩ [] trivial ?_
     refine callx (f := 21) (args := [.nils, .fn 22 [] [.p 0]]) (d := (some 19)) (by kernel_rfl) (xcall_of TT_ok Try.func21 rfl (by decide) (Nat.le_of_ble_eq_true (by kernel_rfl)) ?_)
     refine rg [] 1 ⟨[(4, .nils), (0, .nils), (1, .fn 22 [] [.p 0])], [(0, .cells (mm W xs ys) 25)], 2⟩ [] trivial ?_
     refine xw_seq ?_
     refine reg ?_
     refine rk [] 2 0 ⟨[(9, .fn 22 [] [.p 0]), (8, .nils), (4, .nils), (0, .nils), (1, .fn 22 [] [.p 0])], [(0, .cells (mm W xs ys) 25)], 2⟩ [] trivial ?_
     refine callx (f := 38) (args := [.nils, .fn 22 [] [.p 0]]) (d := (some 10)) (by kernel_rfl) (xcall_of TT_ok Try.func38 rfl (by decide) (Nat.le_of_ble_eq_true (by kernel_rfl)) ?_)
     refine rg [] 1 ⟨[(4, .i 0), (0, .nils), (1, .fn 22 [] [.p 0])], [(0, .cells (mm W xs ys) 25)], 2⟩ [] trivial ?_
     refine xw_seq ?_
     refine rg [(1, .i 0)] 3 ⟨[(8, .i 0), (7, .i 0), (4, .i 0), (0, .nils), (1, .fn 22 [] [.p 0])], [(0, .cells (mm W xs ys) 25)], 2⟩ [(0 : Int) = 0] ⟨rfl, trivial⟩ ?_
     refine xw_block ?_
     refine xw_unroll 1 ?_
     refine ul_step ?_
     refine rg [(0, .f)] 1 ⟨[(9, .f), (8, .i 0), (7, .i 0), (4, .i 0), (0, .nils), (1, .fn 22 [] [.p 0])], [(0, .cells (mm W xs ys) 25)], 2⟩ [(decide (0 < 0)) = false] ⟨decide_eq_false (by omega), trivial⟩ ?_
     refine xw_seq ?_
     refine cf ?_
     refine xw_exit ?_
     refine an_exit ?_
     refine agu_exit ?_
     refine ib_same ?_
     refine an ?_
     refine rg [] 1 ⟨[(4, .i (-1))], [(0, .cells (mm W xs ys) 25)], 2⟩ [] trivial ?_
     refine xw_ret ?_
     refine ⟨.i (-1), by kernel_rfl, ?_⟩
     show XOi _ _ _ _ _ _ _ ⟨[(10, .int .i64 (-1)), (9, .fn 22 [] [.loc 0 0]), (8, .nils), (4, .nils), (0, .nils), (1, .fn 22 [] [.loc 0 0])], [(0, .cells (mm W xs ys) 25)], 2⟩
     refine rk [] 1 3 ⟨[(5, .i (-1)), (4, .nils), (0, .nils), (1, .fn 22 [] [.p 0])], [(0, .cells (mm W xs ys) 25)], 2⟩ [] trivial ?_
     refine en ?_
     refine an ?_
     refine xw_seq ?_
     refine rg [(1, .t)] 2 ⟨[(12, .t), (5, .i (-1)), (4, .nils), (0, .nils), (1, .fn 22 [] [.p 0])], [(0, .cells (mm W xs ys) 25)], 2⟩ [((-1) == (-1)) = true] ⟨beq_iff_eq.2 (by omega), trivial⟩ ?_
     refine ct ?_
     refine rg [] 2 ⟨[(4, .nils), (5, .i (-1)), (0, .nils), (1, .fn 22 [] [.p 0])], [(0, .cells (mm W xs ys) 25)], 2⟩ [] trivial ?_
     refine xw_ret ?_
     refine an_ret ?_
     refine ⟨.nils, by kernel_rfl, ?_⟩
     show XOi _ _ _ _ _ _ _ ⟨[(19, .nils), (18, .fn 22 [] [.loc 0 0]), (17, .nils), (9, .int .i64 1), (7, .int .i64 0), (6, .nils)], [(0, .cells (mm W xs ys) 25)], 2⟩
     refine rk [] 3 3 ⟨[(7, .i 1), (6, .nils)], [], 2⟩ [] trivial ?_
     refine en ?_
     refine an ?_
     refine xw_ret ?_
     exact bs (.tup [.nils, .i 1]) (Or.inl <| ⟨(by omega), rfl⟩)
    ·
     replace h2 : ¬ (lim < 0) := of_decide_eq_false h2
     refine rk [(14, .bool (decide (W < lim)))] 5 11 ⟨[(28, .bool (decide (W < lim))), (27, .bool (decide (W < lim))), (26, .i W), (25, .p 1), (24, .i lim), (23, .f), (22, .bool (decide (lim < 0))), (21, .bool (decide (lim < 0))), (20, .i lim), (19, .f), (18, .bool (decide (1 < s))), (17, .bool (decide (1 < s))), (16, .i s), (15, .f), (14, .bool (decide (s < 0))), (13, .i s), (7, .i 0), (6, .nils), (3, .p 1), (1, .i s), (2, .i lim)], [(1, .cells (mm W xs ys) 25), (0, .cells (mm W xs ys) 25)], 2⟩ [True, (decide (W < lim)) = (decide (W < lim)), True] ⟨trivial, rfl, trivial, trivial⟩ ?_
     refine en ?_
     refine an ?_
     refine xw_cond (b := (decide (W < lim))) (by kernel_rfl) (fun h3 => ?_) (fun h3 => ?_)
     ·
      replace h3 : W < lim := of_decide_eq_true h3
      refine rg [] 2 ⟨[(7, .i 1), (6, .nils), (28, .bool (decide (W < lim))), (27, .bool (decide (W < lim))), (26, .i W), (25, .p 1), (24, .i lim), (23, .f), (22, .bool (decide (lim < 0))), (21, .bool (decide (lim < 0))), (20, .i lim), (19, .f), (18, .bool (decide (1 < s))), (17, .bool (decide (1 < s))), (16, .i s), (15, .f), (14, .bool (decide (s < 0))), (13, .i s), (3, .p 1), (1, .i s), (2, .i lim)], [(1, .cells (mm W xs ys) 25), (0, .cells (mm W xs ys) 25)], 2⟩ [] trivial ?_
      refine xw_ret ?_
      refine an_ret ?_
      refine j0_ret ?_
      refine ⟨.tup [.nils, .i 1], by kernel_rfl, ?_⟩
      show XOi _ _ _ _ _ _ _ ⟨[(14, .tup [.nils, .int .i64 1]), (13, .int .i64 lim), (12, .int .i64 s), (11, .agg (mm W xs ys)), (7, .int .i64 0), (6, .nils), (3, .loc 0 0)], [(1, .cells (mm W xs ys) 25), (0, .cells (mm W xs ys) 25)], 2⟩
      refine rk [] 5 4 ⟨[(9, .i 1), (8, .nils), (7, .i 0), (6, .nils), (3, .p 0)], [(0, .cells (mm W xs ys) 25)], 2⟩ [] trivial ?_
      refine en ?_
      refine an ?_
      refine xw_seq ?_
      refine reg ?_
      refine rk [] 2 0 ⟨[(18, .fn 22 [] [.p 0]), (17, .nils), (9, .i 1), (7, .i 0), (6, .nils)], [(0, .cells (mm W xs ys) 25)], 2⟩ [] trivial ?_
      refine callx (f := 21) (args := [.nils, .fn 22 [] [.p 0]]) (d := (some 19)) (by kernel_rfl) (xcall_of TT_ok Try.func21 rfl (by decide) (Nat.le_of_ble_eq_true (by kernel_rfl)) ?_)
      refine rg [] 1 ⟨[(4, .nils), (0, .nils), (1, .fn 22 [] [.p 0])], [(0, .cells (mm W xs ys) 25)], 2⟩ [] trivial ?_
      refine xw_seq ?_
      refine reg ?_
      refine rk [] 2 0 ⟨[(9, .fn 22 [] [.p 0]), (8, .nils), (4, .nils), (0, .nils), (1, .fn 22 [] [.p 0])], [(0, .cells (mm W xs ys) 25)], 2⟩ [] trivial ?_
      refine callx (f := 38) (args := [.nils, .fn 22 [] [.p 0]]) (d := (some 10)) (by kernel_rfl) (xcall_of TT_ok Try.func38 rfl (by decide) (Nat.le_of_ble_eq_true (by kernel_rfl)) ?_)
      refine rg [] 1 ⟨[(4, .i 0), (0, .nils), (1, .fn 22 [] [.p 0])], [(0, .cells (mm W xs ys) 25)], 2⟩ [] trivial ?_
      refine xw_seq ?_
      refine rg [(1, .i 0)] 3 ⟨[(8, .i 0), (7, .i 0), (4, .i 0), (0, .nils), (1, .fn 22 [] [.p 0])], [(0, .cells (mm W xs ys) 25)], 2⟩ [(0 : Int) = 0] ⟨rfl, trivial⟩ ?_
      refine xw_block ?_
      refine xw_unroll 1 ?_
      refine ul_step ?_
      refine rg [(0, .f)] 1 ⟨[(9, .f), (8, .i 0), (7, .i 0), (4, .i 0), (0, .nils), (1, .fn 22 [] [.p 0])], [(0, .cells (mm W xs ys) 25)], 2⟩ [(decide (0 < 0)) = false] ⟨decide_eq_false (by omega), trivial⟩ ?_
      refine xw_seq ?_
      refine cf ?_
      refine xw_exit ?_
      refine an_exit ?_
      refine agu_exit ?_
      refine ib_same ?_
      refine an ?_
      refine rg [] 1 ⟨[(4, .i (-1))], [(0, .cells (mm W xs ys) 25)], 2⟩ [] trivial ?_
      refine xw_ret ?_
      refine ⟨.i (-1), by kernel_rfl, ?_⟩
      show XOi _ _ _ _ _ _ _ ⟨[(10, .int .i64 (-1)), (9, .fn 22 [] [.loc 0 0]), (8, .nils), (4, .nils), (0, .nils), (1, .fn 22 [] [.loc 0 0])], [(0, .cells (mm W xs ys) 25)], 2⟩
      refine rk [] 1 3 ⟨[(5, .i (-1)), (4, .nils), (0, .nils), (1, .fn 22 [] [.p 0])], [(0, .cells (mm W xs ys) 25)], 2⟩ [] trivial ?_
      refine en ?_
      refine an ?_
      refine xw_seq ?_
      refine rg [(1, .t)] 2 ⟨[(12, .t), (5, .i (-1)), (4, .nils), (0, .nils), (1, .fn 22 [] [.p 0])], [(0, .cells (mm W xs ys) 25)], 2⟩ [((-1) == (-1)) = true] ⟨beq_iff_eq.2 (by omega), trivial⟩ ?_
      refine ct ?_
      refine rg [] 2 ⟨[(4, .nils), (5, .i (-1)), (0, .nils), (1, .fn 22 [] [.p 0])], [(0, .cells (mm W xs ys) 25)], 2⟩ [] trivial ?_
      refine xw_ret ?_
      refine an_ret ?_
      refine ⟨.nils, by kernel_rfl, ?_⟩
      show XOi _ _ _ _ _ _ _ ⟨[(19, .nils), (18, .fn 22 [] [.loc 0 0]), (17, .nils), (9, .int .i64 1), (7, .int .i64 0), (6, .nils)], [(0, .cells (mm W xs ys) 25)], 2⟩
      refine rk [] 3 3 ⟨[(7, .i 1), (6, .nils)], [], 2⟩ [] trivial ?_
      refine en ?_
      refine an ?_
      refine xw_ret ?_
      exact bs (.tup [.nils, .i 1]) (Or.inl <| ⟨(by omega), rfl⟩)
     ·
      replace h3 : ¬ (W < lim) := of_decide_eq_false h3
      refine xw_skip ?_
      refine an ?_
      refine rg [] 1 ⟨[(8, .nils), (28, .bool (decide (W < lim))), (27, .bool (decide (W < lim))), (26, .i W), (25, .p 1), (24, .i lim), (23, .f), (22, .bool (decide (lim < 0))), (21, .bool (decide (lim < 0))), (20, .i lim), (19, .f), (18, .bool (decide (1 < s))), (17, .bool (decide (1 < s))), (16, .i s), (15, .f), (14, .bool (decide (s < 0))), (13, .i s), (7, .i 0), (6, .nils), (3, .p 1), (1, .i s), (2, .i lim)], [(1, .cells (mm W xs ys) 25), (0, .cells (mm W xs ys) 25)], 2⟩ [] trivial ?_
      refine rg [] 1 ⟨[(9, .i 0), (8, .nils), (28, .bool (decide (W < lim))), (27, .bool (decide (W < lim))), (26, .i W), (25, .p 1), (24, .i lim), (23, .f), (22, .bool (decide (lim < 0))), (21, .bool (decide (lim < 0))), (20, .i lim), (19, .f), (18, .bool (decide (1 < s))), (17, .bool (decide (1 < s))), (16, .i s), (15, .f), (14, .bool (decide (s < 0))), (13, .i s), (7, .i 0), (6, .nils), (3, .p 1), (1, .i s), (2, .i lim)], [(1, .cells (mm W xs ys) 25), (0, .cells (mm W xs ys) 25)], 2⟩ [] trivial ?_
      refine xw_seq ?_
      refine xw_label ?_
      refine an ?_
      refine xw_seq ?_
      refine rg [(2, .bool (decide (lim ≤ 0)))] 3 ⟨[(31, .bool (decide (lim ≤ 0))), (30, .i lim), (29, .i 0), (9, .i 0), (8, .nils), (28, .bool (decide (W < lim))), (27, .bool (decide (W < lim))), (26, .i W), (25, .p 1), (24, .i lim), (23, .f), (22, .bool (decide (lim < 0))), (21, .bool (decide (lim < 0))), (20, .i lim), (19, .f), (18, .bool (decide (1 < s))), (17, .bool (decide (1 < s))), (16, .i s), (15, .f), (14, .bool (decide (s < 0))), (13, .i s), (7, .i 0), (6, .nils), (3, .p 1), (1, .i s), (2, .i lim)], [(1, .cells (mm W xs ys) 25), (0, .cells (mm W xs ys) 25)], 2⟩ [(decide (lim ≤ 0)) = (decide (lim ≤ 0))] ⟨rfl, trivial⟩ ?_
      refine xw_cond (b := (decide (lim ≤ 0))) (by kernel_rfl) (fun h4 => ?_) (fun h4 => ?_)
      ·
       replace h4 : lim ≤ 0 := of_decide_eq_true h4
       refine rg [] 3 ⟨[(7, .i 0), (6, .nils), (32, .nils), (31, .bool (decide (lim ≤ 0))), (30, .i lim), (29, .i 0), (9, .i 0), (8, .nils), (28, .bool (decide (W < lim))), (27, .bool (decide (W < lim))), (26, .i W), (25, .p 1), (24, .i lim), (23, .f), (22, .bool (decide (lim < 0))), (21, .bool (decide (lim < 0))), (20, .i lim), (19, .f), (18, .bool (decide (1 < s))), (17, .bool (decide (1 < s))), (16, .i s), (15, .f), (14, .bool (decide (s < 0))), (13, .i s), (3, .p 1), (1, .i s), (2, .i lim)], [(1, .cells (mm W xs ys) 25), (0, .cells (mm W xs ys) 25)], 2⟩ [] trivial ?_
       refine xw_ret ?_
       refine an_ret ?_
       refine j0_ret ?_
       refine ⟨.tup [.nils, .i 0], by kernel_rfl, ?_⟩
       show XOi _ _ _ _ _ _ _ ⟨[(14, .tup [.nils, .int .i64 0]), (13, .int .i64 lim), (12, .int .i64 s), (11, .agg (mm W xs ys)), (7, .int .i64 0), (6, .nils), (3, .loc 0 0)], [(1, .cells (mm W xs ys) 25), (0, .cells (mm W xs ys) 25)], 2⟩
       refine rk [] 5 4 ⟨[(9, .i 0), (8, .nils), (7, .i 0), (6, .nils), (3, .p 0)], [(0, .cells (mm W xs ys) 25)], 2⟩ [] trivial ?_
       refine en ?_
       refine an ?_
       refine xw_seq ?_
       refine reg ?_
       refine rk [] 2 0 ⟨[(18, .fn 22 [] [.p 0]), (17, .nils), (9, .i 0), (7, .i 0), (6, .nils)], [(0, .cells (mm W xs ys) 25)], 2⟩ [] trivial ?_
       refine callx (f := 21) (args := [.nils, .fn 22 [] [.p 0]]) (d := (some 19)) (by kernel_rfl) (xcall_of TT_ok Try.func21 rfl (by decide) (Nat.le_of_ble_eq_true (by kernel_rfl)) ?_)
       refine rg [] 1 ⟨[(4, .nils), (0, .nils), (1, .fn 22 [] [.p 0])], [(0, .cells (mm W xs ys) 25)], 2⟩ [] trivial ?_
       refine xw_seq ?_
       refine reg ?_
       refine rk [] 2 0 ⟨[(9, .fn 22 [] [.p 0]), (8, .nils), (4, .nils), (0, .nils), (1, .fn 22 [] [.p 0])], [(0, .cells (mm W xs ys) 25)], 2⟩ [] trivial ?_
       refine callx (f := 38) (args := [.nils, .fn 22 [] [.p 0]]) (d := (some 10)) (by kernel_rfl) (xcall_of TT_ok Try.func38 rfl (by decide) (Nat.le_of_ble_eq_true (by kernel_rfl)) ?_)
       refine rg [] 1 ⟨[(4, .i 0), (0, .nils), (1, .fn 22 [] [.p 0])], [(0, .cells (mm W xs ys) 25)], 2⟩ [] trivial ?_
       refine xw_seq ?_
       refine rg [(1, .i 0)] 3 ⟨[(8, .i 0), (7, .i 0), (4, .i 0), (0, .nils), (1, .fn 22 [] [.p 0])], [(0, .cells (mm W xs ys) 25)], 2⟩ [(0 : Int) = 0] ⟨rfl, trivial⟩ ?_
       refine xw_block ?_
       refine xw_unroll 1 ?_
       refine ul_step ?_
       refine rg [(0, .f)] 1 ⟨[(9, .f), (8, .i 0), (7, .i 0), (4, .i 0), (0, .nils), (1, .fn 22 [] [.p 0])], [(0, .cells (mm W xs ys) 25)], 2⟩ [(decide (0 < 0)) = false] ⟨decide_eq_false (by omega), trivial⟩ ?_
       refine xw_seq ?_
       refine cf ?_
       refine xw_exit ?_
       refine an_exit ?_
       refine agu_exit ?_
       refine ib_same ?_
       refine an ?_
       refine rg [] 1 ⟨[(4, .i (-1))], [(0, .cells (mm W xs ys) 25)], 2⟩ [] trivial ?_
       refine xw_ret ?_
       refine ⟨.i (-1), by kernel_rfl, ?_⟩
       show XOi _ _ _ _ _ _ _ ⟨[(10, .int .i64 (-1)), (9, .fn 22 [] [.loc 0 0]), (8, .nils), (4, .nils), (0, .nils), (1, .fn 22 [] [.loc 0 0])], [(0, .cells (mm W xs ys) 25)], 2⟩
       refine rk [] 1 3 ⟨[(5, .i (-1)), (4, .nils), (0, .nils), (1, .fn 22 [] [.p 0])], [(0, .cells (mm W xs ys) 25)], 2⟩ [] trivial ?_
       refine en ?_
       refine an ?_
       refine xw_seq ?_
       refine rg [(1, .t)] 2 ⟨[(12, .t), (5, .i (-1)), (4, .nils), (0, .nils), (1, .fn 22 [] [.p 0])], [(0, .cells (mm W xs ys) 25)], 2⟩ [((-1) == (-1)) = true] ⟨beq_iff_eq.2 (by omega), trivial⟩ ?_
       refine ct ?_
       refine rg [] 2 ⟨[(4, .nils), (5, .i (-1)), (0, .nils), (1, .fn 22 [] [.p 0])], [(0, .cells (mm W xs ys) 25)], 2⟩ [] trivial ?_
       refine xw_ret ?_
       refine an_ret ?_
       refine ⟨.nils, by kernel_rfl, ?_⟩
       show XOi _ _ _ _ _ _ _ ⟨[(19, .nils), (18, .fn 22 [] [.loc 0 0]), (17, .nils), (9, .int .i64 0), (7, .int .i64 0), (6, .nils)], [(0, .cells (mm W xs ys) 25)], 2⟩
       refine rk [] 3 3 ⟨[(7, .i 0), (6, .nils)], [], 2⟩ [] trivial ?_
       refine en ?_
       refine an ?_
       refine xw_ret ?_
       exact br (.tup [.nils, .i 0]) (.tup [.sl false 1 (m64 (wO W xs ys s lim)), .i 0]) (wkd [((m64 (wO W xs ys s lim)) : List SV) = [], (0 : Int) = 0] (by kernel_rfl) ⟨(by first | rfl | (simp only [wO]; rw [← wA_end (A := wA W xs ys s lim) ‹_› (by omega)]; first | exact congrArg _ (df_end ‹_› (by omega) (by omega)) | exact congrArg _ (flt_all ‹_› (by omega)).symm | simp)), rfl, trivial⟩) (Or.inr <| Or.inl <| ⟨(by omega), (by first | rfl | omega | assumption | exact wE_end ‹_› (by omega) | exact wE_err ‹_› (by omega) (by omega) | exact wE_errn ‹_› (by omega) (by omega) | exact wE_big ‹_› (by omega) (by omega) (by omega) | exact wE_bign ‹_› (by omega) (by omega) (by omega) | exact wE_next ‹_› (by omega) (by omega) (by omega) (by omega)), rfl⟩)
      ·
       replace h4 : ¬ (lim ≤ 0) := of_decide_eq_false h4
       refine xw_skip ?_
       refine an ?_
       refine xw_seq ?_
       refine reg ?_
       refine rk [] 2 0 ⟨[(34, .i 0), (33, .i s), (31, .bool (decide (lim ≤ 0))), (30, .i lim), (29, .i 0), (9, .i 0), (8, .nils), (28, .bool (decide (W < lim))), (27, .bool (decide (W < lim))), (26, .i W), (25, .p 1), (24, .i lim), (23, .f), (22, .bool (decide (lim < 0))), (21, .bool (decide (lim < 0))), (20, .i lim), (19, .f), (18, .bool (decide (1 < s))), (17, .bool (decide (1 < s))), (16, .i s), (15, .f), (14, .bool (decide (s < 0))), (13, .i s), (7, .i 0), (6, .nils), (3, .p 1), (1, .i s), (2, .i lim)], [(1, .cells (mm W xs ys) 25), (0, .cells (mm W xs ys) 25)], 2⟩ [] trivial ?_
       refine pc (addr_1 s 0 (by omega)) ?_
       refine rk [] 1 3 ⟨[(10, .u ((s + 1) * 4294967296 + 0)), (35, .u ((s + 1) * 4294967296 + 0)), (34, .i 0), (33, .i s), (31, .bool (decide (lim ≤ 0))), (30, .i lim), (29, .i 0), (9, .i 0), (8, .nils), (28, .bool (decide (W < lim))), (27, .bool (decide (W < lim))), (26, .i W), (25, .p 1), (24, .i lim), (23, .f), (22, .bool (decide (lim < 0))), (21, .bool (decide (lim < 0))), (20, .i lim), (19, .f), (18, .bool (decide (1 < s))), (17, .bool (decide (1 < s))), (16, .i s), (15, .f), (14, .bool (decide (s < 0))), (13, .i s), (7, .i 0), (6, .nils), (3, .p 1), (1, .i s), (2, .i lim)], [(1, .cells (mm W xs ys) 25), (0, .cells (mm W xs ys) 25)], 2⟩ [] trivial ?_
       refine en ?_
       refine an ?_
       refine xw_seq ?_
       refine reg ?_
       refine rk [] 2 0 ⟨[(38, .u ((s + 1) * 4294967296 + 0)), (37, .agg (mm W xs ys)), (10, .u ((s + 1) * 4294967296 + 0)), (35, .u ((s + 1) * 4294967296 + 0)), (34, .i 0), (33, .i s), (31, .bool (decide (lim ≤ 0))), (30, .i lim), (29, .i 0), (9, .i 0), (8, .nils), (28, .bool (decide (W < lim))), (27, .bool (decide (W < lim))), (26, .i W), (25, .p 1), (24, .i lim), (23, .f), (22, .bool (decide (lim < 0))), (21, .bool (decide (lim < 0))), (20, .i lim), (19, .f), (18, .bool (decide (1 < s))), (17, .bool (decide (1 < s))), (16, .i s), (15, .f), (14, .bool (decide (s < 0))), (13, .i s), (7, .i 0), (6, .nils), (3, .p 1), (1, .i s), (2, .i lim)], [(1, .cells (mm W xs ys) 25), (0, .cells (mm W xs ys) 25)], 2⟩ [True] ⟨trivial, trivial⟩ ?_
       by_cases h5 : (oErr W xs ys ((s + 1) * 4294967296 + 0)) = 0
       ·
        refine pc (oat_1 W xs ys ((s + 1) * 4294967296 + 0) ‹_› ‹_› ‹_› ‹_› ‹_› (by omega) ‹_›) ?_
        obtain ⟨h6, h7, h8⟩ := oErr_ok W xs ys ((s + 1) * 4294967296 + 0) ‹_›
        refine rk [] 6 3 ⟨[(12, .i 0), (11, .p 2), (41, .i 0), (40, .agg [.i (hT xs ys ((s + 1) * 4294967296 + 0)), .i (hL xs ys ((s + 1) * 4294967296 + 0)), .u (hM xs ys ((s + 1) * 4294967296 + 0))]), (36, .tup [.agg [.i (hT xs ys ((s + 1) * 4294967296 + 0)), .i (hL xs ys ((s + 1) * 4294967296 + 0)), .u (hM xs ys ((s + 1) * 4294967296 + 0))], .i 0]), (39, .tup [.agg [.i (hT xs ys ((s + 1) * 4294967296 + 0)), .i (hL xs ys ((s + 1) * 4294967296 + 0)), .u (hM xs ys ((s + 1) * 4294967296 + 0))], .i 0]), (38, .u ((s + 1) * 4294967296 + 0)), (37, .agg (mm W xs ys)), (10, .u ((s + 1) * 4294967296 + 0)), (35, .u ((s + 1) * 4294967296 + 0)), (34, .i 0), (33, .i s), (31, .bool (decide (lim ≤ 0))), (30, .i lim), (29, .i 0), (9, .i 0), (8, .nils), (28, .bool (decide (W < lim))), (27, .bool (decide (W < lim))), (26, .i W), (25, .p 1), (24, .i lim), (23, .f), (22, .bool (decide (lim < 0))), (21, .bool (decide (lim < 0))), (20, .i lim), (19, .f), (18, .bool (decide (1 < s))), (17, .bool (decide (1 < s))), (16, .i s), (15, .f), (14, .bool (decide (s < 0))), (13, .i s), (7, .i 0), (6, .nils), (3, .p 1), (1, .i s), (2, .i lim)], [(2, .cells [.i (hT xs ys ((s + 1) * 4294967296 + 0)), .i (hL xs ys ((s + 1) * 4294967296 + 0)), .u (hM xs ys ((s + 1) * 4294967296 + 0))] 49), (1, .cells (mm W xs ys) 25), (0, .cells (mm W xs ys) 25)], 3⟩ [True] ⟨trivial, trivial⟩ ?_
        refine en ?_
        refine an ?_
        refine xw_seq ?_
        refine rg [(1, .f)] 2 ⟨[(43, .f), (42, .i 0), (12, .i 0), (11, .p 2), (41, .i 0), (40, .agg [.i (hT xs ys ((s + 1) * 4294967296 + 0)), .i (hL xs ys ((s + 1) * 4294967296 + 0)), .u (hM xs ys ((s + 1) * 4294967296 + 0))]), (36, .tup [.agg [.i (hT xs ys ((s + 1) * 4294967296 + 0)), .i (hL xs ys ((s + 1) * 4294967296 + 0)), .u (hM xs ys ((s + 1) * 4294967296 + 0))], .i 0]), (39, .tup [.agg [.i (hT xs ys ((s + 1) * 4294967296 + 0)), .i (hL xs ys ((s + 1) * 4294967296 + 0)), .u (hM xs ys ((s + 1) * 4294967296 + 0))], .i 0]), (38, .u ((s + 1) * 4294967296 + 0)), (37, .agg (mm W xs ys)), (10, .u ((s + 1) * 4294967296 + 0)), (35, .u ((s + 1) * 4294967296 + 0)), (34, .i 0), (33, .i s), (31, .bool (decide (lim ≤ 0))), (30, .i lim), (29, .i 0), (9, .i 0), (8, .nils), (28, .bool (decide (W < lim))), (27, .bool (decide (W < lim))), (26, .i W), (25, .p 1), (24, .i lim), (23, .f), (22, .bool (decide (lim < 0))), (21, .bool (decide (lim < 0))), (20, .i lim), (19, .f), (18, .bool (decide (1 < s))), (17, .bool (decide (1 < s))), (16, .i s), (15, .f), (14, .bool (decide (s < 0))), (13, .i s), (7, .i 0), (6, .nils), (3, .p 1), (1, .i s), (2, .i lim)], [(2, .cells [.i (hT xs ys ((s + 1) * 4294967296 + 0)), .i (hL xs ys ((s + 1) * 4294967296 + 0)), .u (hM xs ys ((s + 1) * 4294967296 + 0))] 49), (1, .cells (mm W xs ys) 25), (0, .cells (mm W xs ys) 25)], 3⟩ [(0 != 0) = false] ⟨bne_eq_false_iff_eq.2 (by omega), trivial⟩ ?_
        refine cf ?_
        refine xw_skip ?_
        refine an ?_
        refine xw_seq ?_
        refine reg ?_
        refine rk [] 2 0 ⟨[(46, .agg [.i (hT xs ys ((s + 1) * 4294967296 + 0)), .i (hL xs ys ((s + 1) * 4294967296 + 0)), .u (hM xs ys ((s + 1) * 4294967296 + 0))]), (45, .i 0), (43, .f), (42, .i 0), (12, .i 0), (11, .p 2), (41, .i 0), (40, .agg [.i (hT xs ys ((s + 1) * 4294967296 + 0)), .i (hL xs ys ((s + 1) * 4294967296 + 0)), .u (hM xs ys ((s + 1) * 4294967296 + 0))]), (36, .tup [.agg [.i (hT xs ys ((s + 1) * 4294967296 + 0)), .i (hL xs ys ((s + 1) * 4294967296 + 0)), .u (hM xs ys ((s + 1) * 4294967296 + 0))], .i 0]), (39, .tup [.agg [.i (hT xs ys ((s + 1) * 4294967296 + 0)), .i (hL xs ys ((s + 1) * 4294967296 + 0)), .u (hM xs ys ((s + 1) * 4294967296 + 0))], .i 0]), (38, .u ((s + 1) * 4294967296 + 0)), (37, .agg (mm W xs ys)), (10, .u ((s + 1) * 4294967296 + 0)), (35, .u ((s + 1) * 4294967296 + 0)), (34, .i 0), (33, .i s), (31, .bool (decide (lim ≤ 0))), (30, .i lim), (29, .i 0), (9, .i 0), (8, .nils), (28, .bool (decide (W < lim))), (27, .bool (decide (W < lim))), (26, .i W), (25, .p 1), (24, .i lim), (23, .f), (22, .bool (decide (lim < 0))), (21, .bool (decide (lim < 0))), (20, .i lim), (19, .f), (18, .bool (decide (1 < s))), (17, .bool (decide (1 < s))), (16, .i s), (15, .f), (14, .bool (decide (s < 0))), (13, .i s), (7, .i 0), (6, .nils), (3, .p 1), (1, .i s), (2, .i lim)], [(2, .cells [.i (hT xs ys ((s + 1) * 4294967296 + 0)), .i (hL xs ys ((s + 1) * 4294967296 + 0)), .u (hM xs ys ((s + 1) * 4294967296 + 0))] 49), (1, .cells (mm W xs ys) 25), (0, .cells (mm W xs ys) 25)], 3⟩ [True] ⟨trivial, trivial⟩ ?_
        by_cases h9 : (ldw xs ys ((s + 1) * 4294967296 + 0) / 72057594037927936) = 255
        ·
         refine pc (hwords_1 (ldw xs ys ((s + 1) * 4294967296 + 0) / 72057594037927936) ((ldw xs ys ((s + 1) * 4294967296 + 0) / 4294967296) % 16777216) (ldw xs ys ((s + 1) * 4294967296 + 0) % 4294967296) (by omega) (by omega) (by omega) (by omega) ‹_›) ?_
         refine rk [(3, .i (((ldw xs ys ((s + 1) * 4294967296 + 0) / 4294967296) % 16777216) + 1))] 2 3 ⟨[(9, .i ((hL xs ys ((s + 1) * 4294967296 + 0)) + 1)), (48, .i ((hL xs ys ((s + 1) * 4294967296 + 0)) + 1)), (47, .i ((hL xs ys ((s + 1) * 4294967296 + 0)) + 1)), (46, .agg [.i (hT xs ys ((s + 1) * 4294967296 + 0)), .i (hL xs ys ((s + 1) * 4294967296 + 0)), .u (hM xs ys ((s + 1) * 4294967296 + 0))]), (45, .i 0), (43, .f), (42, .i 0), (12, .i 0), (11, .p 2), (41, .i 0), (40, .agg [.i (hT xs ys ((s + 1) * 4294967296 + 0)), .i (hL xs ys ((s + 1) * 4294967296 + 0)), .u (hM xs ys ((s + 1) * 4294967296 + 0))]), (36, .tup [.agg [.i (hT xs ys ((s + 1) * 4294967296 + 0)), .i (hL xs ys ((s + 1) * 4294967296 + 0)), .u (hM xs ys ((s + 1) * 4294967296 + 0))], .i 0]), (39, .tup [.agg [.i (hT xs ys ((s + 1) * 4294967296 + 0)), .i (hL xs ys ((s + 1) * 4294967296 + 0)), .u (hM xs ys ((s + 1) * 4294967296 + 0))], .i 0]), (38, .u ((s + 1) * 4294967296 + 0)), (37, .agg (mm W xs ys)), (10, .u ((s + 1) * 4294967296 + 0)), (35, .u ((s + 1) * 4294967296 + 0)), (34, .i 0), (33, .i s), (31, .bool (decide (lim ≤ 0))), (30, .i lim), (29, .i 0), (8, .nils), (28, .bool (decide (W < lim))), (27, .bool (decide (W < lim))), (26, .i W), (25, .p 1), (24, .i lim), (23, .f), (22, .bool (decide (lim < 0))), (21, .bool (decide (lim < 0))), (20, .i lim), (19, .f), (18, .bool (decide (1 < s))), (17, .bool (decide (1 < s))), (16, .i s), (15, .f), (14, .bool (decide (s < 0))), (13, .i s), (7, .i 0), (6, .nils), (3, .p 1), (1, .i s), (2, .i lim)], [(2, .cells [.i (hT xs ys ((s + 1) * 4294967296 + 0)), .i (hL xs ys ((s + 1) * 4294967296 + 0)), .u (hM xs ys ((s + 1) * 4294967296 + 0))] 49), (1, .cells (mm W xs ys) 25), (0, .cells (mm W xs ys) 25)], 3⟩ [IntKind.i64.wrap (0 + (((ldw xs ys ((s + 1) * 4294967296 + 0) / 4294967296) % 16777216) + 1)) = (((ldw xs ys ((s + 1) * 4294967296 + 0) / 4294967296) % 16777216) + 1)] ⟨i64_eq (by omega) (by omega), trivial⟩ ?_
         refine en ?_
         refine an ?_
         refine xw_seq ?_
         refine rg [(2, .bool (decide (lim < (((ldw xs ys ((s + 1) * 4294967296 + 0) / 4294967296) % 16777216) + 1))))] 3 ⟨[(51, .bool (decide (lim < ((hL xs ys ((s + 1) * 4294967296 + 0)) + 1)))), (50, .i lim), (49, .i ((hL xs ys ((s + 1) * 4294967296 + 0)) + 1)), (9, .i ((hL xs ys ((s + 1) * 4294967296 + 0)) + 1)), (48, .i ((hL xs ys ((s + 1) * 4294967296 + 0)) + 1)), (47, .i ((hL xs ys ((s + 1) * 4294967296 + 0)) + 1)), (46, .agg [.i (hT xs ys ((s + 1) * 4294967296 + 0)), .i (hL xs ys ((s + 1) * 4294967296 + 0)), .u (hM xs ys ((s + 1) * 4294967296 + 0))]), (45, .i 0), (43, .f), (42, .i 0), (12, .i 0), (11, .p 2), (41, .i 0), (40, .agg [.i (hT xs ys ((s + 1) * 4294967296 + 0)), .i (hL xs ys ((s + 1) * 4294967296 + 0)), .u (hM xs ys ((s + 1) * 4294967296 + 0))]), (36, .tup [.agg [.i (hT xs ys ((s + 1) * 4294967296 + 0)), .i (hL xs ys ((s + 1) * 4294967296 + 0)), .u (hM xs ys ((s + 1) * 4294967296 + 0))], .i 0]), (39, .tup [.agg [.i (hT xs ys ((s + 1) * 4294967296 + 0)), .i (hL xs ys ((s + 1) * 4294967296 + 0)), .u (hM xs ys ((s + 1) * 4294967296 + 0))], .i 0]), (38, .u ((s + 1) * 4294967296 + 0)), (37, .agg (mm W xs ys)), (10, .u ((s + 1) * 4294967296 + 0)), (35, .u ((s + 1) * 4294967296 + 0)), (34, .i 0), (33, .i s), (31, .bool (decide (lim ≤ 0))), (30, .i lim), (29, .i 0), (8, .nils), (28, .bool (decide (W < lim))), (27, .bool (decide (W < lim))), (26, .i W), (25, .p 1), (24, .i lim), (23, .f), (22, .bool (decide (lim < 0))), (21, .bool (decide (lim < 0))), (20, .i lim), (19, .f), (18, .bool (decide (1 < s))), (17, .bool (decide (1 < s))), (16, .i s), (15, .f), (14, .bool (decide (s < 0))), (13, .i s), (7, .i 0), (6, .nils), (3, .p 1), (1, .i s), (2, .i lim)], [(2, .cells [.i (hT xs ys ((s + 1) * 4294967296 + 0)), .i (hL xs ys ((s + 1) * 4294967296 + 0)), .u (hM xs ys ((s + 1) * 4294967296 + 0))] 49), (1, .cells (mm W xs ys) 25), (0, .cells (mm W xs ys) 25)], 3⟩ [(decide (lim < (((ldw xs ys ((s + 1) * 4294967296 + 0) / 4294967296) % 16777216) + 1))) = (decide (lim < (((ldw xs ys ((s + 1) * 4294967296 + 0) / 4294967296) % 16777216) + 1)))] ⟨rfl, trivial⟩ ?_
         refine xw_cond (b := (decide (lim < (((ldw xs ys ((s + 1) * 4294967296 + 0) / 4294967296) % 16777216) + 1)))) (by kernel_rfl) (fun h10 => ?_) (fun h10 => ?_)
         ·
          replace h10 : lim < (((ldw xs ys ((s + 1) * 4294967296 + 0) / 4294967296) % 16777216) + 1) := of_decide_eq_true h10
          refine rg [] 2 ⟨[(7, .i 10), (6, .nils), (51, .bool (decide (lim < ((hL xs ys ((s + 1) * 4294967296 + 0)) + 1)))), (50, .i lim), (49, .i ((hL xs ys ((s + 1) * 4294967296 + 0)) + 1)), (9, .i ((hL xs ys ((s + 1) * 4294967296 + 0)) + 1)), (48, .i ((hL xs ys ((s + 1) * 4294967296 + 0)) + 1)), (47, .i ((hL xs ys ((s + 1) * 4294967296 + 0)) + 1)), (46, .agg [.i (hT xs ys ((s + 1) * 4294967296 + 0)), .i (hL xs ys ((s + 1) * 4294967296 + 0)), .u (hM xs ys ((s + 1) * 4294967296 + 0))]), (45, .i 0), (43, .f), (42, .i 0), (12, .i 0), (11, .p 2), (41, .i 0), (40, .agg [.i (hT xs ys ((s + 1) * 4294967296 + 0)), .i (hL xs ys ((s + 1) * 4294967296 + 0)), .u (hM xs ys ((s + 1) * 4294967296 + 0))]), (36, .tup [.agg [.i (hT xs ys ((s + 1) * 4294967296 + 0)), .i (hL xs ys ((s + 1) * 4294967296 + 0)), .u (hM xs ys ((s + 1) * 4294967296 + 0))], .i 0]), (39, .tup [.agg [.i (hT xs ys ((s + 1) * 4294967296 + 0)), .i (hL xs ys ((s + 1) * 4294967296 + 0)), .u (hM xs ys ((s + 1) * 4294967296 + 0))], .i 0]), (38, .u ((s + 1) * 4294967296 + 0)), (37, .agg (mm W xs ys)), (10, .u ((s + 1) * 4294967296 + 0)), (35, .u ((s + 1) * 4294967296 + 0)), (34, .i 0), (33, .i s), (31, .bool (decide (lim ≤ 0))), (30, .i lim), (29, .i 0), (8, .nils), (28, .bool (decide (W < lim))), (27, .bool (decide (W < lim))), (26, .i W), (25, .p 1), (24, .i lim), (23, .f), (22, .bool (decide (lim < 0))), (21, .bool (decide (lim < 0))), (20, .i lim), (19, .f), (18, .bool (decide (1 < s))), (17, .bool (decide (1 < s))), (16, .i s), (15, .f), (14, .bool (decide (s < 0))), (13, .i s), (3, .p 1), (1, .i s), (2, .i lim)], [(2, .cells [.i (hT xs ys ((s + 1) * 4294967296 + 0)), .i (hL xs ys ((s + 1) * 4294967296 + 0)), .u (hM xs ys ((s + 1) * 4294967296 + 0))] 49), (1, .cells (mm W xs ys) 25), (0, .cells (mm W xs ys) 25)], 3⟩ [] trivial ?_
          refine xw_ret ?_
          refine an_ret ?_
          refine j0_ret ?_
          refine ⟨.tup [.nils, .i 10], by kernel_rfl, ?_⟩
          show XOi _ _ _ _ _ _ _ ⟨[(14, .tup [.nils, .int .i64 10]), (13, .int .i64 lim), (12, .int .i64 s), (11, .agg (mm W xs ys)), (7, .int .i64 0), (6, .nils), (3, .loc 0 0)], [(2, .cells [.int .i64 (ldw xs ys ((s + 1) * 4294967296 + 0) / 72057594037927936), .int .i64 ((ldw xs ys ((s + 1) * 4294967296 + 0) / 4294967296) % 16777216), .int .u64 (ldw xs ys ((s + 1) * 4294967296 + 0) % 4294967296)] 49), (1, .cells (mm W xs ys) 25), (0, .cells (mm W xs ys) 25)], 3⟩
          refine rk [] 5 4 ⟨[(9, .i 10), (8, .nils), (7, .i 0), (6, .nils), (3, .p 0)], [(0, .cells (mm W xs ys) 25)], 3⟩ [] trivial ?_
          refine en ?_
          refine an ?_
          refine xw_seq ?_
          refine reg ?_
          refine rk [] 2 0 ⟨[(18, .fn 22 [] [.p 0]), (17, .nils), (9, .i 10), (7, .i 0), (6, .nils)], [(0, .cells (mm W xs ys) 25)], 3⟩ [] trivial ?_
          refine callx (f := 21) (args := [.nils, .fn 22 [] [.p 0]]) (d := (some 19)) (by kernel_rfl) (xcall_of TT_ok Try.func21 rfl (by decide) (Nat.le_of_ble_eq_true (by kernel_rfl)) ?_)
          refine rg [] 1 ⟨[(4, .nils), (0, .nils), (1, .fn 22 [] [.p 0])], [(0, .cells (mm W xs ys) 25)], 3⟩ [] trivial ?_
          refine xw_seq ?_
          refine reg ?_
          refine rk [] 2 0 ⟨[(9, .fn 22 [] [.p 0]), (8, .nils), (4, .nils), (0, .nils), (1, .fn 22 [] [.p 0])], [(0, .cells (mm W xs ys) 25)], 3⟩ [] trivial ?_
          refine callx (f := 38) (args := [.nils, .fn 22 [] [.p 0]]) (d := (some 10)) (by kernel_rfl) (xcall_of TT_ok Try.func38 rfl (by decide) (Nat.le_of_ble_eq_true (by kernel_rfl)) ?_)
          refine rg [] 1 ⟨[(4, .i 0), (0, .nils), (1, .fn 22 [] [.p 0])], [(0, .cells (mm W xs ys) 25)], 3⟩ [] trivial ?_
          refine xw_seq ?_
          refine rg [(1, .i 0)] 3 ⟨[(8, .i 0), (7, .i 0), (4, .i 0), (0, .nils), (1, .fn 22 [] [.p 0])], [(0, .cells (mm W xs ys) 25)], 3⟩ [(0 : Int) = 0] ⟨rfl, trivial⟩ ?_
          refine xw_block ?_
          refine xw_unroll 1 ?_
          refine ul_step ?_
          refine rg [(0, .f)] 1 ⟨[(9, .f), (8, .i 0), (7, .i 0), (4, .i 0), (0, .nils), (1, .fn 22 [] [.p 0])], [(0, .cells (mm W xs ys) 25)], 3⟩ [(decide (0 < 0)) = false] ⟨decide_eq_false (by omega), trivial⟩ ?_
          refine xw_seq ?_
          refine cf ?_
          refine xw_exit ?_
          refine an_exit ?_
          refine agu_exit ?_
          refine ib_same ?_
          refine an ?_
          refine rg [] 1 ⟨[(4, .i (-1))], [(0, .cells (mm W xs ys) 25)], 3⟩ [] trivial ?_
          refine xw_ret ?_
          refine ⟨.i (-1), by kernel_rfl, ?_⟩
          show XOi _ _ _ _ _ _ _ ⟨[(10, .int .i64 (-1)), (9, .fn 22 [] [.loc 0 0]), (8, .nils), (4, .nils), (0, .nils), (1, .fn 22 [] [.loc 0 0])], [(0, .cells (mm W xs ys) 25)], 3⟩
          refine rk [] 1 3 ⟨[(5, .i (-1)), (4, .nils), (0, .nils), (1, .fn 22 [] [.p 0])], [(0, .cells (mm W xs ys) 25)], 3⟩ [] trivial ?_
          refine en ?_
          refine an ?_
          refine xw_seq ?_
          refine rg [(1, .t)] 2 ⟨[(12, .t), (5, .i (-1)), (4, .nils), (0, .nils), (1, .fn 22 [] [.p 0])], [(0, .cells (mm W xs ys) 25)], 3⟩ [((-1) == (-1)) = true] ⟨beq_iff_eq.2 (by omega), trivial⟩ ?_
          refine ct ?_
          refine rg [] 2 ⟨[(4, .nils), (5, .i (-1)), (0, .nils), (1, .fn 22 [] [.p 0])], [(0, .cells (mm W xs ys) 25)], 3⟩ [] trivial ?_
          refine xw_ret ?_
          refine an_ret ?_
          refine ⟨.nils, by kernel_rfl, ?_⟩
          show XOi _ _ _ _ _ _ _ ⟨[(19, .nils), (18, .fn 22 [] [.loc 0 0]), (17, .nils), (9, .int .i64 10), (7, .int .i64 0), (6, .nils)], [(0, .cells (mm W xs ys) 25)], 3⟩
          refine rk [] 3 3 ⟨[(7, .i 10), (6, .nils)], [], 3⟩ [] trivial ?_
          refine en ?_
          refine an ?_
          refine xw_ret ?_
          exact br (.tup [.nils, .i 10]) (.tup [.nils, .i (wE W xs ys s lim)]) (wkd [(10 : Int) = (wE W xs ys s lim)] (by kernel_rfl) ⟨(by first | rfl | omega | assumption | exact wE_end ‹_› (by omega) | exact wE_err ‹_› (by omega) (by omega) | exact wE_errn ‹_› (by omega) (by omega) | exact wE_big ‹_› (by omega) (by omega) (by omega) | exact wE_bign ‹_› (by omega) (by omega) (by omega) | exact wE_next ‹_› (by omega) (by omega) (by omega) (by omega)), trivial⟩) (Or.inr <| Or.inr <| ⟨(by omega), (by first | rfl | omega | assumption | exact wE_end ‹_› (by omega) | exact wE_err ‹_› (by omega) (by omega) | exact wE_errn ‹_› (by omega) (by omega) | exact wE_big ‹_› (by omega) (by omega) (by omega) | exact wE_bign ‹_› (by omega) (by omega) (by omega) | exact wE_next ‹_› (by omega) (by omega) (by omega) (by omega)), rfl⟩)
         ·
          replace h10 : ¬ (lim < (((ldw xs ys ((s + 1) * 4294967296 + 0) / 4294967296) % 16777216) + 1)) := of_decide_eq_false h10
          refine xw_skip ?_
          refine an ?_
          refine xw_seq ?_
          refine reg ?_
          refine rk [(2, .t)] 4 0 ⟨[(55, .own 3), (54, .sl false 1 [.u ((s + 1) * 4294967296 + 0)]), (53, .u ((s + 1) * 4294967296 + 0)), (52, .nils), (51, .bool (decide (lim < ((hL xs ys ((s + 1) * 4294967296 + 0)) + 1)))), (50, .i lim), (49, .i ((hL xs ys ((s + 1) * 4294967296 + 0)) + 1)), (9, .i ((hL xs ys ((s + 1) * 4294967296 + 0)) + 1)), (48, .i ((hL xs ys ((s + 1) * 4294967296 + 0)) + 1)), (47, .i ((hL xs ys ((s + 1) * 4294967296 + 0)) + 1)), (46, .agg [.i (hT xs ys ((s + 1) * 4294967296 + 0)), .i (hL xs ys ((s + 1) * 4294967296 + 0)), .u (hM xs ys ((s + 1) * 4294967296 + 0))]), (45, .i 0), (43, .f), (42, .i 0), (12, .i 0), (11, .p 2), (41, .i 0), (40, .agg [.i (hT xs ys ((s + 1) * 4294967296 + 0)), .i (hL xs ys ((s + 1) * 4294967296 + 0)), .u (hM xs ys ((s + 1) * 4294967296 + 0))]), (36, .tup [.agg [.i (hT xs ys ((s + 1) * 4294967296 + 0)), .i (hL xs ys ((s + 1) * 4294967296 + 0)), .u (hM xs ys ((s + 1) * 4294967296 + 0))], .i 0]), (39, .tup [.agg [.i (hT xs ys ((s + 1) * 4294967296 + 0)), .i (hL xs ys ((s + 1) * 4294967296 + 0)), .u (hM xs ys ((s + 1) * 4294967296 + 0))], .i 0]), (38, .u ((s + 1) * 4294967296 + 0)), (37, .agg (mm W xs ys)), (10, .u ((s + 1) * 4294967296 + 0)), (35, .u ((s + 1) * 4294967296 + 0)), (34, .i 0), (33, .i s), (31, .bool (decide (lim ≤ 0))), (30, .i lim), (29, .i 0), (8, .nils), (28, .bool (decide (W < lim))), (27, .bool (decide (W < lim))), (26, .i W), (25, .p 1), (24, .i lim), (23, .f), (22, .bool (decide (lim < 0))), (21, .bool (decide (lim < 0))), (20, .i lim), (19, .f), (18, .bool (decide (1 < s))), (17, .bool (decide (1 < s))), (16, .i s), (15, .f), (14, .bool (decide (s < 0))), (13, .i s), (7, .i 0), (6, .nils), (3, .p 1), (1, .i s), (2, .i lim)], [(3, .row 1 35 (([]) ++ ([.u ((s + 1) * 4294967296 + 0)]))), (2, .cells [.i (hT xs ys ((s + 1) * 4294967296 + 0)), .i (hL xs ys ((s + 1) * 4294967296 + 0)), .u (hM xs ys ((s + 1) * 4294967296 + 0))] 49), (1, .cells (mm W xs ys) 25), (0, .cells (mm W xs ys) 25)], 4⟩ [(∀ y ∈ ([.u ((s + 1) * 4294967296 + 0)] : List SV), ElemOk y) ∧ (false = true → 1 ≤ ([.u ((s + 1) * 4294967296 + 0)] : List SV).length ∧ ∀ x ∈ ([] : List SV), ElemOk x) ∧ (([] : List SV).length + ([.u ((s + 1) * 4294967296 + 0)] : List SV).length) * 8 ≤ 140737488355328 ∧ ([] : List SV).length + ([.u ((s + 1) * 4294967296 + 0)] : List SV).length ≤ 4611686018427387904] ⟨⟨(by intro y hy; simp at hy; first | (subst hy; rfl) | (rcases hy with rfl | rfl <;> rfl)), (fun h => by cases h), by first | omega | (simp only [len_st]; omega) | (simp; done) | (simp; omega) | (simp [len_st, len_stx, len_sty, len_zx, len_zy]; omega) | (have hc := len_clr; first | (simp; refine Int.le_trans ?_ (Int.ofNat_le.2 (hc _ _ _)); omega) | (refine Int.lt_of_lt_of_le ?_ (Int.ofNat_le.2 (hc _ _ _)); omega)), by first | omega | (simp only [len_st]; omega) | (simp; done) | (simp; omega) | (simp [len_st, len_stx, len_sty, len_zx, len_zy]; omega) | (have hc := len_clr; first | (simp; refine Int.le_trans ?_ (Int.ofNat_le.2 (hc _ _ _)); omega) | (refine Int.lt_of_lt_of_le ?_ (Int.ofNat_le.2 (hc _ _ _)); omega))⟩, trivial⟩ ?_
          refine setr 3 (z := 1) (E := 35) (L := (([]) ++ ([.u ((s + 1) * 4294967296 + 0)]))) (L' := ([ .u ((s + 1) * 4294967296 + 0) ])) (by kernel_rfl) nil_app ?_
          refine rk [] 1 4 ⟨[(8, .own 3), (55, .own 3), (54, .sl false 1 [.u ((s + 1) * 4294967296 + 0)]), (53, .u ((s + 1) * 4294967296 + 0)), (52, .nils), (51, .bool (decide (lim < ((hL xs ys ((s + 1) * 4294967296 + 0)) + 1)))), (50, .i lim), (49, .i ((hL xs ys ((s + 1) * 4294967296 + 0)) + 1)), (9, .i ((hL xs ys ((s + 1) * 4294967296 + 0)) + 1)), (48, .i ((hL xs ys ((s + 1) * 4294967296 + 0)) + 1)), (47, .i ((hL xs ys ((s + 1) * 4294967296 + 0)) + 1)), (46, .agg [.i (hT xs ys ((s + 1) * 4294967296 + 0)), .i (hL xs ys ((s + 1) * 4294967296 + 0)), .u (hM xs ys ((s + 1) * 4294967296 + 0))]), (45, .i 0), (43, .f), (42, .i 0), (12, .i 0), (11, .p 2), (41, .i 0), (40, .agg [.i (hT xs ys ((s + 1) * 4294967296 + 0)), .i (hL xs ys ((s + 1) * 4294967296 + 0)), .u (hM xs ys ((s + 1) * 4294967296 + 0))]), (36, .tup [.agg [.i (hT xs ys ((s + 1) * 4294967296 + 0)), .i (hL xs ys ((s + 1) * 4294967296 + 0)), .u (hM xs ys ((s + 1) * 4294967296 + 0))], .i 0]), (39, .tup [.agg [.i (hT xs ys ((s + 1) * 4294967296 + 0)), .i (hL xs ys ((s + 1) * 4294967296 + 0)), .u (hM xs ys ((s + 1) * 4294967296 + 0))], .i 0]), (38, .u ((s + 1) * 4294967296 + 0)), (37, .agg (mm W xs ys)), (10, .u ((s + 1) * 4294967296 + 0)), (35, .u ((s + 1) * 4294967296 + 0)), (34, .i 0), (33, .i s), (31, .bool (decide (lim ≤ 0))), (30, .i lim), (29, .i 0), (28, .bool (decide (W < lim))), (27, .bool (decide (W < lim))), (26, .i W), (25, .p 1), (24, .i lim), (23, .f), (22, .bool (decide (lim < 0))), (21, .bool (decide (lim < 0))), (20, .i lim), (19, .f), (18, .bool (decide (1 < s))), (17, .bool (decide (1 < s))), (16, .i s), (15, .f), (14, .bool (decide (s < 0))), (13, .i s), (7, .i 0), (6, .nils), (3, .p 1), (1, .i s), (2, .i lim)], [(3, .row 1 35 ([ .u ((s + 1) * 4294967296 + 0) ])), (2, .cells [.i (hT xs ys ((s + 1) * 4294967296 + 0)), .i (hL xs ys ((s + 1) * 4294967296 + 0)), .u (hM xs ys ((s + 1) * 4294967296 + 0))] 49), (1, .cells (mm W xs ys) 25), (0, .cells (mm W xs ys) 25)], 4⟩ [] trivial ?_
          refine en ?_
          refine an ?_
          refine xw_goto ?_
          exact j0_goto ⟨((((ldw xs ys ((s + 1) * 4294967296 + 0) / 4294967296) % 16777216) + 1), [((s + 1) * 4294967296 + 0)]), ⟨(by omega), (by omega), (by omega), (show (wE W xs ys s lim) = (wf W xs ys s lim (((ldw xs ys ((s + 1) * 4294967296 + 0) / 4294967296) % 16777216) + 1)).1 by exact wE_next ‹_› (by omega) (by omega) (by omega) (by omega)), (show (wA W xs ys s lim) = [((s + 1) * 4294967296 + 0)] ++ (wf W xs ys s lim (((ldw xs ys ((s + 1) * 4294967296 + 0) / 4294967296) % 16777216) + 1)).2 by first | exact wA_next ‹_› (by omega) (by omega) (by omega) (by omega) | exact wA_next (out := []) ‹_› (by omega) (by omega) (by omega) (by omega)), (show U64s [((s + 1) * 4294967296 + 0)] by first | exact U64s.append ‹_› (U64s.cons (by omega) U64s.nil) | exact U64s.cons (by omega) U64s.nil), (show ([((s + 1) * 4294967296 + 0)].length : Int) ≤ (((ldw xs ys ((s + 1) * 4294967296 + 0) / 4294967296) % 16777216) + 1) by simp; omega)⟩⟩ (le_of [(2, 3)] [(0 : Int) = 0, (s : Int) = s, (lim : Int) = lim, ((((ldw xs ys ((s + 1) * 4294967296 + 0) / 4294967296) % 16777216) + 1) : Int) = (((ldw xs ys ((s + 1) * 4294967296 + 0) / 4294967296) % 16777216) + 1), (([ .int .u64 ((s + 1) * 4294967296 + 0) ]) : List SV) = (m64 [((s + 1) * 4294967296 + 0)]), (W : Int) = W, (false = true → false = true), ((m64 xs) : List SV) = (m64 xs), (false = true → false = true), ((m64 ys) : List SV) = (m64 ys), (W : Int) = W, (false = true → false = true), ((m64 xs) : List SV) = (m64 xs), (false = true → false = true), ((m64 ys) : List SV) = (m64 ys)] (by kernel_rfl) ⟨rfl, rfl, rfl, rfl, (by first | rfl | omega | assumption | exact congrArg _ (wA_end ‹_› (by omega)) | exact wA_next ‹_› (by omega) (by omega) (by omega) (by omega) | exact U64s.append ‹_› (U64s.cons (by omega) U64s.nil) | exact wE_next ‹_› (by omega) (by omega) (by omega) (by omega) | (simp; omega)), rfl, id, rfl, id, rfl, rfl, id, rfl, id, rfl, trivial⟩)
        ·
         refine pc (hwords_2 (ldw xs ys ((s + 1) * 4294967296 + 0) / 72057594037927936) ((ldw xs ys ((s + 1) * 4294967296 + 0) / 4294967296) % 16777216) (ldw xs ys ((s + 1) * 4294967296 + 0) % 4294967296) (by omega) (by omega) (by omega) (by omega) ‹_›) ?_
         refine rk [(3, .i (((ldw xs ys ((s + 1) * 4294967296 + 0) / 4294967296) % 16777216) + 2))] 2 3 ⟨[(9, .i ((hL xs ys ((s + 1) * 4294967296 + 0)) + 2)), (48, .i ((hL xs ys ((s + 1) * 4294967296 + 0)) + 2)), (47, .i ((hL xs ys ((s + 1) * 4294967296 + 0)) + 2)), (46, .agg [.i (hT xs ys ((s + 1) * 4294967296 + 0)), .i (hL xs ys ((s + 1) * 4294967296 + 0)), .u (hM xs ys ((s + 1) * 4294967296 + 0))]), (45, .i 0), (43, .f), (42, .i 0), (12, .i 0), (11, .p 2), (41, .i 0), (40, .agg [.i (hT xs ys ((s + 1) * 4294967296 + 0)), .i (hL xs ys ((s + 1) * 4294967296 + 0)), .u (hM xs ys ((s + 1) * 4294967296 + 0))]), (36, .tup [.agg [.i (hT xs ys ((s + 1) * 4294967296 + 0)), .i (hL xs ys ((s + 1) * 4294967296 + 0)), .u (hM xs ys ((s + 1) * 4294967296 + 0))], .i 0]), (39, .tup [.agg [.i (hT xs ys ((s + 1) * 4294967296 + 0)), .i (hL xs ys ((s + 1) * 4294967296 + 0)), .u (hM xs ys ((s + 1) * 4294967296 + 0))], .i 0]), (38, .u ((s + 1) * 4294967296 + 0)), (37, .agg (mm W xs ys)), (10, .u ((s + 1) * 4294967296 + 0)), (35, .u ((s + 1) * 4294967296 + 0)), (34, .i 0), (33, .i s), (31, .bool (decide (lim ≤ 0))), (30, .i lim), (29, .i 0), (8, .nils), (28, .bool (decide (W < lim))), (27, .bool (decide (W < lim))), (26, .i W), (25, .p 1), (24, .i lim), (23, .f), (22, .bool (decide (lim < 0))), (21, .bool (decide (lim < 0))), (20, .i lim), (19, .f), (18, .bool (decide (1 < s))), (17, .bool (decide (1 < s))), (16, .i s), (15, .f), (14, .bool (decide (s < 0))), (13, .i s), (7, .i 0), (6, .nils), (3, .p 1), (1, .i s), (2, .i lim)], [(2, .cells [.i (hT xs ys ((s + 1) * 4294967296 + 0)), .i (hL xs ys ((s + 1) * 4294967296 + 0)), .u (hM xs ys ((s + 1) * 4294967296 + 0))] 49), (1, .cells (mm W xs ys) 25), (0, .cells (mm W xs ys) 25)], 3⟩ [IntKind.i64.wrap (0 + (((ldw xs ys ((s + 1) * 4294967296 + 0) / 4294967296) % 16777216) + 2)) = (((ldw xs ys ((s + 1) * 4294967296 + 0) / 4294967296) % 16777216) + 2)] ⟨i64_eq (by omega) (by omega), trivial⟩ ?_
         refine en ?_
         refine an ?_
         refine xw_seq ?_
         refine rg [(2, .bool (decide (lim < (((ldw xs ys ((s + 1) * 4294967296 + 0) / 4294967296) % 16777216) + 2))))] 3 ⟨[(51, .bool (decide (lim < ((hL xs ys ((s + 1) * 4294967296 + 0)) + 2)))), (50, .i lim), (49, .i ((hL xs ys ((s + 1) * 4294967296 + 0)) + 2)), (9, .i ((hL xs ys ((s + 1) * 4294967296 + 0)) + 2)), (48, .i ((hL xs ys ((s + 1) * 4294967296 + 0)) + 2)), (47, .i ((hL xs ys ((s + 1) * 4294967296 + 0)) + 2)), (46, .agg [.i (hT xs ys ((s + 1) * 4294967296 + 0)), .i (hL xs ys ((s + 1) * 4294967296 + 0)), .u (hM xs ys ((s + 1) * 4294967296 + 0))]), (45, .i 0), (43, .f), (42, .i 0), (12, .i 0), (11, .p 2), (41, .i 0), (40, .agg [.i (hT xs ys ((s + 1) * 4294967296 + 0)), .i (hL xs ys ((s + 1) * 4294967296 + 0)), .u (hM xs ys ((s + 1) * 4294967296 + 0))]), (36, .tup [.agg [.i (hT xs ys ((s + 1) * 4294967296 + 0)), .i (hL xs ys ((s + 1) * 4294967296 + 0)), .u (hM xs ys ((s + 1) * 4294967296 + 0))], .i 0]), (39, .tup [.agg [.i (hT xs ys ((s + 1) * 4294967296 + 0)), .i (hL xs ys ((s + 1) * 4294967296 + 0)), .u (hM xs ys ((s + 1) * 4294967296 + 0))], .i 0]), (38, .u ((s + 1) * 4294967296 + 0)), (37, .agg (mm W xs ys)), (10, .u ((s + 1) * 4294967296 + 0)), (35, .u ((s + 1) * 4294967296 + 0)), (34, .i 0), (33, .i s), (31, .bool (decide (lim ≤ 0))), (30, .i lim), (29, .i 0), (8, .nils), (28, .bool (decide (W < lim))), (27, .bool (decide (W < lim))), (26, .i W), (25, .p 1), (24, .i lim), (23, .f), (22, .bool (decide (lim < 0))), (21, .bool (decide (lim < 0))), (20, .i lim), (19, .f), (18, .bool (decide (1 < s))), (17, .bool (decide (1 < s))), (16, .i s), (15, .f), (14, .bool (decide (s < 0))), (13, .i s), (7, .i 0), (6, .nils), (3, .p 1), (1, .i s), (2, .i lim)], [(2, .cells [.i (hT xs ys ((s + 1) * 4294967296 + 0)), .i (hL xs ys ((s + 1) * 4294967296 + 0)), .u (hM xs ys ((s + 1) * 4294967296 + 0))] 49), (1, .cells (mm W xs ys) 25), (0, .cells (mm W xs ys) 25)], 3⟩ [(decide (lim < (((ldw xs ys ((s + 1) * 4294967296 + 0) / 4294967296) % 16777216) + 2))) = (decide (lim < (((ldw xs ys ((s + 1) * 4294967296 + 0) / 4294967296) % 16777216) + 2)))] ⟨rfl, trivial⟩ ?_
         refine xw_cond (b := (decide (lim < (((ldw xs ys ((s + 1) * 4294967296 + 0) / 4294967296) % 16777216) + 2)))) (by kernel_rfl) (fun h10 => ?_) (fun h10 => ?_)
         ·
          replace h10 : lim < (((ldw xs ys ((s + 1) * 4294967296 + 0) / 4294967296) % 16777216) + 2) := of_decide_eq_true h10
          refine rg [] 2 ⟨[(7, .i 10), (6, .nils), (51, .bool (decide (lim < ((hL xs ys ((s + 1) * 4294967296 + 0)) + 2)))), (50, .i lim), (49, .i ((hL xs ys ((s + 1) * 4294967296 + 0)) + 2)), (9, .i ((hL xs ys ((s + 1) * 4294967296 + 0)) + 2)), (48, .i ((hL xs ys ((s + 1) * 4294967296 + 0)) + 2)), (47, .i ((hL xs ys ((s + 1) * 4294967296 + 0)) + 2)), (46, .agg [.i (hT xs ys ((s + 1) * 4294967296 + 0)), .i (hL xs ys ((s + 1) * 4294967296 + 0)), .u (hM xs ys ((s + 1) * 4294967296 + 0))]), (45, .i 0), (43, .f), (42, .i 0), (12, .i 0), (11, .p 2), (41, .i 0), (40, .agg [.i (hT xs ys ((s + 1) * 4294967296 + 0)), .i (hL xs ys ((s + 1) * 4294967296 + 0)), .u (hM xs ys ((s + 1) * 4294967296 + 0))]), (36, .tup [.agg [.i (hT xs ys ((s + 1) * 4294967296 + 0)), .i (hL xs ys ((s + 1) * 4294967296 + 0)), .u (hM xs ys ((s + 1) * 4294967296 + 0))], .i 0]), (39, .tup [.agg [.i (hT xs ys ((s + 1) * 4294967296 + 0)), .i (hL xs ys ((s + 1) * 4294967296 + 0)), .u (hM xs ys ((s + 1) * 4294967296 + 0))], .i 0]), (38, .u ((s + 1) * 4294967296 + 0)), (37, .agg (mm W xs ys)), (10, .u ((s + 1) * 4294967296 + 0)), (35, .u ((s + 1) * 4294967296 + 0)), (34, .i 0), (33, .i s), (31, .bool (decide (lim ≤ 0))), (30, .i lim), (29, .i 0), (8, .nils), (28, .bool (decide (W < lim))), (27, .bool (decide (W < lim))), (26, .i W), (25, .p 1), (24, .i lim), (23, .f), (22, .bool (decide (lim < 0))), (21, .bool (decide (lim < 0))), (20, .i lim), (19, .f), (18, .bool (decide (1 < s))), (17, .bool (decide (1 < s))), (16, .i s), (15, .f), (14, .bool (decide (s < 0))), (13, .i s), (3, .p 1), (1, .i s), (2, .i lim)], [(2, .cells [.i (hT xs ys ((s + 1) * 4294967296 + 0)), .i (hL xs ys ((s + 1) * 4294967296 + 0)), .u (hM xs ys ((s + 1) * 4294967296 + 0))] 49), (1, .cells (mm W xs ys) 25), (0, .cells (mm W xs ys) 25)], 3⟩ [] trivial ?_
          refine xw_ret ?_
          refine an_ret ?_
          refine j0_ret ?_
          refine ⟨.tup [.nils, .i 10], by kernel_rfl, ?_⟩
          show XOi _ _ _ _ _ _ _ ⟨[(14, .tup [.nils, .int .i64 10]), (13, .int .i64 lim), (12, .int .i64 s), (11, .agg (mm W xs ys)), (7, .int .i64 0), (6, .nils), (3, .loc 0 0)], [(2, .cells [.int .i64 (ldw xs ys ((s + 1) * 4294967296 + 0) / 72057594037927936), .int .i64 ((ldw xs ys ((s + 1) * 4294967296 + 0) / 4294967296) % 16777216), .int .u64 (ldw xs ys ((s + 1) * 4294967296 + 0) % 4294967296)] 49), (1, .cells (mm W xs ys) 25), (0, .cells (mm W xs ys) 25)], 3⟩
          refine rk [] 5 4 ⟨[(9, .i 10), (8, .nils), (7, .i 0), (6, .nils), (3, .p 0)], [(0, .cells (mm W xs ys) 25)], 3⟩ [] trivial ?_
          refine en ?_
          refine an ?_
          refine xw_seq ?_
          refine reg ?_
          refine rk [] 2 0 ⟨[(18, .fn 22 [] [.p 0]), (17, .nils), (9, .i 10), (7, .i 0), (6, .nils)], [(0, .cells (mm W xs ys) 25)], 3⟩ [] trivial ?_
          refine callx (f := 21) (args := [.nils, .fn 22 [] [.p 0]]) (d := (some 19)) (by kernel_rfl) (xcall_of TT_ok Try.func21 rfl (by decide) (Nat.le_of_ble_eq_true (by kernel_rfl)) ?_)
          refine rg [] 1 ⟨[(4, .nils), (0, .nils), (1, .fn 22 [] [.p 0])], [(0, .cells (mm W xs ys) 25)], 3⟩ [] trivial ?_
          refine xw_seq ?_
          refine reg ?_
          refine rk [] 2 0 ⟨[(9, .fn 22 [] [.p 0]), (8, .nils), (4, .nils), (0, .nils), (1, .fn 22 [] [.p 0])], [(0, .cells (mm W xs ys) 25)], 3⟩ [] trivial ?_
          refine callx (f := 38) (args := [.nils, .fn 22 [] [.p 0]]) (d := (some 10)) (by kernel_rfl) (xcall_of TT_ok Try.func38 rfl (by decide) (Nat.le_of_ble_eq_true (by kernel_rfl)) ?_)
          refine rg [] 1 ⟨[(4, .i 0), (0, .nils), (1, .fn 22 [] [.p 0])], [(0, .cells (mm W xs ys) 25)], 3⟩ [] trivial ?_
          refine xw_seq ?_
          refine rg [(1, .i 0)] 3 ⟨[(8, .i 0), (7, .i 0), (4, .i 0), (0, .nils), (1, .fn 22 [] [.p 0])], [(0, .cells (mm W xs ys) 25)], 3⟩ [(0 : Int) = 0] ⟨rfl, trivial⟩ ?_
          refine xw_block ?_
          refine xw_unroll 1 ?_
          refine ul_step ?_
          refine rg [(0, .f)] 1 ⟨[(9, .f), (8, .i 0), (7, .i 0), (4, .i 0), (0, .nils), (1, .fn 22 [] [.p 0])], [(0, .cells (mm W xs ys) 25)], 3⟩ [(decide (0 < 0)) = false] ⟨decide_eq_false (by omega), trivial⟩ ?_
          refine xw_seq ?_
          refine cf ?_
          refine xw_exit ?_
          refine an_exit ?_
          refine agu_exit ?_
          refine ib_same ?_
          refine an ?_
          refine rg [] 1 ⟨[(4, .i (-1))], [(0, .cells (mm W xs ys) 25)], 3⟩ [] trivial ?_
          refine xw_ret ?_
          refine ⟨.i (-1), by kernel_rfl, ?_⟩
          show XOi _ _ _ _ _ _ _ ⟨[(10, .int .i64 (-1)), (9, .fn 22 [] [.loc 0 0]), (8, .nils), (4, .nils), (0, .nils), (1, .fn 22 [] [.loc 0 0])], [(0, .cells (mm W xs ys) 25)], 3⟩
          refine rk [] 1 3 ⟨[(5, .i (-1)), (4, .nils), (0, .nils), (1, .fn 22 [] [.p 0])], [(0, .cells (mm W xs ys) 25)], 3⟩ [] trivial ?_
          refine en ?_
          refine an ?_
          refine xw_seq ?_
          refine rg [(1, .t)] 2 ⟨[(12, .t), (5, .i (-1)), (4, .nils), (0, .nils), (1, .fn 22 [] [.p 0])], [(0, .cells (mm W xs ys) 25)], 3⟩ [((-1) == (-1)) = true] ⟨beq_iff_eq.2 (by omega), trivial⟩ ?_
          refine ct ?_
          refine rg [] 2 ⟨[(4, .nils), (5, .i (-1)), (0, .nils), (1, .fn 22 [] [.p 0])], [(0, .cells (mm W xs ys) 25)], 3⟩ [] trivial ?_
          refine xw_ret ?_
          refine an_ret ?_
          refine ⟨.nils, by kernel_rfl, ?_⟩
          show XOi _ _ _ _ _ _ _ ⟨[(19, .nils), (18, .fn 22 [] [.loc 0 0]), (17, .nils), (9, .int .i64 10), (7, .int .i64 0), (6, .nils)], [(0, .cells (mm W xs ys) 25)], 3⟩
          refine rk [] 3 3 ⟨[(7, .i 10), (6, .nils)], [], 3⟩ [] trivial ?_
          refine en ?_
          refine an ?_
          refine xw_ret ?_
          exact br (.tup [.nils, .i 10]) (.tup [.nils, .i (wE W xs ys s lim)]) (wkd [(10 : Int) = (wE W xs ys s lim)] (by kernel_rfl) ⟨(by first | rfl | omega | assumption | exact wE_end ‹_› (by omega) | exact wE_err ‹_› (by omega) (by omega) | exact wE_errn ‹_› (by omega) (by omega) | exact wE_big ‹_› (by omega) (by omega) (by omega) | exact wE_bign ‹_› (by omega) (by omega) (by omega) | exact wE_next ‹_› (by omega) (by omega) (by omega) (by omega)), trivial⟩) (Or.inr <| Or.inr <| ⟨(by omega), (by first | rfl | omega | assumption | exact wE_end ‹_› (by omega) | exact wE_err ‹_› (by omega) (by omega) | exact wE_errn ‹_› (by omega) (by omega) | exact wE_big ‹_› (by omega) (by omega) (by omega) | exact wE_bign ‹_› (by omega) (by omega) (by omega) | exact wE_next ‹_› (by omega) (by omega) (by omega) (by omega)), rfl⟩)
         ·
          replace h10 : ¬ (lim < (((ldw xs ys ((s + 1) * 4294967296 + 0) / 4294967296) % 16777216) + 2)) := of_decide_eq_false h10
          refine xw_skip ?_
          refine an ?_
          refine xw_seq ?_
          refine reg ?_
          refine rk [(2, .t)] 4 0 ⟨[(55, .own 3), (54, .sl false 1 [.u ((s + 1) * 4294967296 + 0)]), (53, .u ((s + 1) * 4294967296 + 0)), (52, .nils), (51, .bool (decide (lim < ((hL xs ys ((s + 1) * 4294967296 + 0)) + 2)))), (50, .i lim), (49, .i ((hL xs ys ((s + 1) * 4294967296 + 0)) + 2)), (9, .i ((hL xs ys ((s + 1) * 4294967296 + 0)) + 2)), (48, .i ((hL xs ys ((s + 1) * 4294967296 + 0)) + 2)), (47, .i ((hL xs ys ((s + 1) * 4294967296 + 0)) + 2)), (46, .agg [.i (hT xs ys ((s + 1) * 4294967296 + 0)), .i (hL xs ys ((s + 1) * 4294967296 + 0)), .u (hM xs ys ((s + 1) * 4294967296 + 0))]), (45, .i 0), (43, .f), (42, .i 0), (12, .i 0), (11, .p 2), (41, .i 0), (40, .agg [.i (hT xs ys ((s + 1) * 4294967296 + 0)), .i (hL xs ys ((s + 1) * 4294967296 + 0)), .u (hM xs ys ((s + 1) * 4294967296 + 0))]), (36, .tup [.agg [.i (hT xs ys ((s + 1) * 4294967296 + 0)), .i (hL xs ys ((s + 1) * 4294967296 + 0)), .u (hM xs ys ((s + 1) * 4294967296 + 0))], .i 0]), (39, .tup [.agg [.i (hT xs ys ((s + 1) * 4294967296 + 0)), .i (hL xs ys ((s + 1) * 4294967296 + 0)), .u (hM xs ys ((s + 1) * 4294967296 + 0))], .i 0]), (38, .u ((s + 1) * 4294967296 + 0)), (37, .agg (mm W xs ys)), (10, .u ((s + 1) * 4294967296 + 0)), (35, .u ((s + 1) * 4294967296 + 0)), (34, .i 0), (33, .i s), (31, .bool (decide (lim ≤ 0))), (30, .i lim), (29, .i 0), (8, .nils), (28, .bool (decide (W < lim))), (27, .bool (decide (W < lim))), (26, .i W), (25, .p 1), (24, .i lim), (23, .f), (22, .bool (decide (lim < 0))), (21, .bool (decide (lim < 0))), (20, .i lim), (19, .f), (18, .bool (decide (1 < s))), (17, .bool (decide (1 < s))), (16, .i s), (15, .f), (14, .bool (decide (s < 0))), (13, .i s), (7, .i 0), (6, .nils), (3, .p 1), (1, .i s), (2, .i lim)], [(3, .row 1 35 (([]) ++ ([.u ((s + 1) * 4294967296 + 0)]))), (2, .cells [.i (hT xs ys ((s + 1) * 4294967296 + 0)), .i (hL xs ys ((s + 1) * 4294967296 + 0)), .u (hM xs ys ((s + 1) * 4294967296 + 0))] 49), (1, .cells (mm W xs ys) 25), (0, .cells (mm W xs ys) 25)], 4⟩ [(∀ y ∈ ([.u ((s + 1) * 4294967296 + 0)] : List SV), ElemOk y) ∧ (false = true → 1 ≤ ([.u ((s + 1) * 4294967296 + 0)] : List SV).length ∧ ∀ x ∈ ([] : List SV), ElemOk x) ∧ (([] : List SV).length + ([.u ((s + 1) * 4294967296 + 0)] : List SV).length) * 8 ≤ 140737488355328 ∧ ([] : List SV).length + ([.u ((s + 1) * 4294967296 + 0)] : List SV).length ≤ 4611686018427387904] ⟨⟨(by intro y hy; simp at hy; first | (subst hy; rfl) | (rcases hy with rfl | rfl <;> rfl)), (fun h => by cases h), by first | omega | (simp only [len_st]; omega) | (simp; done) | (simp; omega) | (simp [len_st, len_stx, len_sty, len_zx, len_zy]; omega) | (have hc := len_clr; first | (simp; refine Int.le_trans ?_ (Int.ofNat_le.2 (hc _ _ _)); omega) | (refine Int.lt_of_lt_of_le ?_ (Int.ofNat_le.2 (hc _ _ _)); omega)), by first | omega | (simp only [len_st]; omega) | (simp; done) | (simp; omega) | (simp [len_st, len_stx, len_sty, len_zx, len_zy]; omega) | (have hc := len_clr; first | (simp; refine Int.le_trans ?_ (Int.ofNat_le.2 (hc _ _ _)); omega) | (refine Int.lt_of_lt_of_le ?_ (Int.ofNat_le.2 (hc _ _ _)); omega))⟩, trivial⟩ ?_
          refine setr 3 (z := 1) (E := 35) (L := (([]) ++ ([.u ((s + 1) * 4294967296 + 0)]))) (L' := ([ .u ((s + 1) * 4294967296 + 0) ])) (by kernel_rfl) nil_app ?_
          refine rk [] 1 4 ⟨[(8, .own 3), (55, .own 3), (54, .sl false 1 [.u ((s + 1) * 4294967296 + 0)]), (53, .u ((s + 1) * 4294967296 + 0)), (52, .nils), (51, .bool (decide (lim < ((hL xs ys ((s + 1) * 4294967296 + 0)) + 2)))), (50, .i lim), (49, .i ((hL xs ys ((s + 1) * 4294967296 + 0)) + 2)), (9, .i ((hL xs ys ((s + 1) * 4294967296 + 0)) + 2)), (48, .i ((hL xs ys ((s + 1) * 4294967296 + 0)) + 2)), (47, .i ((hL xs ys ((s + 1) * 4294967296 + 0)) + 2)), (46, .agg [.i (hT xs ys ((s + 1) * 4294967296 + 0)), .i (hL xs ys ((s + 1) * 4294967296 + 0)), .u (hM xs ys ((s + 1) * 4294967296 + 0))]), (45, .i 0), (43, .f), (42, .i 0), (12, .i 0), (11, .p 2), (41, .i 0), (40, .agg [.i (hT xs ys ((s + 1) * 4294967296 + 0)), .i (hL xs ys ((s + 1) * 4294967296 + 0)), .u (hM xs ys ((s + 1) * 4294967296 + 0))]), (36, .tup [.agg [.i (hT xs ys ((s + 1) * 4294967296 + 0)), .i (hL xs ys ((s + 1) * 4294967296 + 0)), .u (hM xs ys ((s + 1) * 4294967296 + 0))], .i 0]), (39, .tup [.agg [.i (hT xs ys ((s + 1) * 4294967296 + 0)), .i (hL xs ys ((s + 1) * 4294967296 + 0)), .u (hM xs ys ((s + 1) * 4294967296 + 0))], .i 0]), (38, .u ((s + 1) * 4294967296 + 0)), (37, .agg (mm W xs ys)), (10, .u ((s + 1) * 4294967296 + 0)), (35, .u ((s + 1) * 4294967296 + 0)), (34, .i 0), (33, .i s), (31, .bool (decide (lim ≤ 0))), (30, .i lim), (29, .i 0), (28, .bool (decide (W < lim))), (27, .bool (decide (W < lim))), (26, .i W), (25, .p 1), (24, .i lim), (23, .f), (22, .bool (decide (lim < 0))), (21, .bool (decide (lim < 0))), (20, .i lim), (19, .f), (18, .bool (decide (1 < s))), (17, .bool (decide (1 < s))), (16, .i s), (15, .f), (14, .bool (decide (s < 0))), (13, .i s), (7, .i 0), (6, .nils), (3, .p 1), (1, .i s), (2, .i lim)], [(3, .row 1 35 ([ .u ((s + 1) * 4294967296 + 0) ])), (2, .cells [.i (hT xs ys ((s + 1) * 4294967296 + 0)), .i (hL xs ys ((s + 1) * 4294967296 + 0)), .u (hM xs ys ((s + 1) * 4294967296 + 0))] 49), (1, .cells (mm W xs ys) 25), (0, .cells (mm W xs ys) 25)], 4⟩ [] trivial ?_
          refine en ?_
          refine an ?_
          refine xw_goto ?_
          exact j0_goto ⟨((((ldw xs ys ((s + 1) * 4294967296 + 0) / 4294967296) % 16777216) + 2), [((s + 1) * 4294967296 + 0)]), ⟨(by omega), (by omega), (by omega), (show (wE W xs ys s lim) = (wf W xs ys s lim (((ldw xs ys ((s + 1) * 4294967296 + 0) / 4294967296) % 16777216) + 2)).1 by exact wE_next ‹_› (by omega) (by omega) (by omega) (by omega)), (show (wA W xs ys s lim) = [((s + 1) * 4294967296 + 0)] ++ (wf W xs ys s lim (((ldw xs ys ((s + 1) * 4294967296 + 0) / 4294967296) % 16777216) + 2)).2 by first | exact wA_next ‹_› (by omega) (by omega) (by omega) (by omega) | exact wA_next (out := []) ‹_› (by omega) (by omega) (by omega) (by omega)), (show U64s [((s + 1) * 4294967296 + 0)] by first | exact U64s.append ‹_› (U64s.cons (by omega) U64s.nil) | exact U64s.cons (by omega) U64s.nil), (show ([((s + 1) * 4294967296 + 0)].length : Int) ≤ (((ldw xs ys ((s + 1) * 4294967296 + 0) / 4294967296) % 16777216) + 2) by simp; omega)⟩⟩ (le_of [(2, 3)] [(0 : Int) = 0, (s : Int) = s, (lim : Int) = lim, ((((ldw xs ys ((s + 1) * 4294967296 + 0) / 4294967296) % 16777216) + 2) : Int) = (((ldw xs ys ((s + 1) * 4294967296 + 0) / 4294967296) % 16777216) + 2), (([ .int .u64 ((s + 1) * 4294967296 + 0) ]) : List SV) = (m64 [((s + 1) * 4294967296 + 0)]), (W : Int) = W, (false = true → false = true), ((m64 xs) : List SV) = (m64 xs), (false = true → false = true), ((m64 ys) : List SV) = (m64 ys), (W : Int) = W, (false = true → false = true), ((m64 xs) : List SV) = (m64 xs), (false = true → false = true), ((m64 ys) : List SV) = (m64 ys)] (by kernel_rfl) ⟨rfl, rfl, rfl, rfl, (by first | rfl | omega | assumption | exact congrArg _ (wA_end ‹_› (by omega)) | exact wA_next ‹_› (by omega) (by omega) (by omega) (by omega) | exact U64s.append ‹_› (U64s.cons (by omega) U64s.nil) | exact wE_next ‹_› (by omega) (by omega) (by omega) (by omega) | (simp; omega)), rfl, id, rfl, id, rfl, rfl, id, rfl, id, rfl, trivial⟩)
       ·
        refine pc (oat_2 W xs ys ((s + 1) * 4294967296 + 0) ‹_› ‹_› ‹_› ‹_› ‹_› (by omega) ‹_›) ?_
        have h6 : (oErr W xs ys ((s + 1) * 4294967296 + 0)) = 2 ∨ (oErr W xs ys ((s + 1) * 4294967296 + 0)) = 10 := oErr_no W xs ys ((s + 1) * 4294967296 + 0) (by omega)
        refine rk [] 6 3 ⟨[(12, .i (oErr W xs ys ((s + 1) * 4294967296 + 0))), (11, .p 2), (41, .i (oErr W xs ys ((s + 1) * 4294967296 + 0))), (40, .agg [.i 0, .i 0, .u 0]), (36, .tup [.agg [.i 0, .i 0, .u 0], .i (oErr W xs ys ((s + 1) * 4294967296 + 0))]), (39, .tup [.agg [.i 0, .i 0, .u 0], .i (oErr W xs ys ((s + 1) * 4294967296 + 0))]), (38, .u ((s + 1) * 4294967296 + 0)), (37, .agg (mm W xs ys)), (10, .u ((s + 1) * 4294967296 + 0)), (35, .u ((s + 1) * 4294967296 + 0)), (34, .i 0), (33, .i s), (31, .bool (decide (lim ≤ 0))), (30, .i lim), (29, .i 0), (9, .i 0), (8, .nils), (28, .bool (decide (W < lim))), (27, .bool (decide (W < lim))), (26, .i W), (25, .p 1), (24, .i lim), (23, .f), (22, .bool (decide (lim < 0))), (21, .bool (decide (lim < 0))), (20, .i lim), (19, .f), (18, .bool (decide (1 < s))), (17, .bool (decide (1 < s))), (16, .i s), (15, .f), (14, .bool (decide (s < 0))), (13, .i s), (7, .i 0), (6, .nils), (3, .p 1), (1, .i s), (2, .i lim)], [(2, .cells [.i 0, .i 0, .u 0] 49), (1, .cells (mm W xs ys) 25), (0, .cells (mm W xs ys) 25)], 3⟩ [True] ⟨trivial, trivial⟩ ?_
        refine en ?_
        refine an ?_
        refine xw_seq ?_
        refine rg [(1, .t)] 2 ⟨[(43, .t), (42, .i (oErr W xs ys ((s + 1) * 4294967296 + 0))), (12, .i (oErr W xs ys ((s + 1) * 4294967296 + 0))), (11, .p 2), (41, .i (oErr W xs ys ((s + 1) * 4294967296 + 0))), (40, .agg [.i 0, .i 0, .u 0]), (36, .tup [.agg [.i 0, .i 0, .u 0], .i (oErr W xs ys ((s + 1) * 4294967296 + 0))]), (39, .tup [.agg [.i 0, .i 0, .u 0], .i (oErr W xs ys ((s + 1) * 4294967296 + 0))]), (38, .u ((s + 1) * 4294967296 + 0)), (37, .agg (mm W xs ys)), (10, .u ((s + 1) * 4294967296 + 0)), (35, .u ((s + 1) * 4294967296 + 0)), (34, .i 0), (33, .i s), (31, .bool (decide (lim ≤ 0))), (30, .i lim), (29, .i 0), (9, .i 0), (8, .nils), (28, .bool (decide (W < lim))), (27, .bool (decide (W < lim))), (26, .i W), (25, .p 1), (24, .i lim), (23, .f), (22, .bool (decide (lim < 0))), (21, .bool (decide (lim < 0))), (20, .i lim), (19, .f), (18, .bool (decide (1 < s))), (17, .bool (decide (1 < s))), (16, .i s), (15, .f), (14, .bool (decide (s < 0))), (13, .i s), (7, .i 0), (6, .nils), (3, .p 1), (1, .i s), (2, .i lim)], [(2, .cells [.i 0, .i 0, .u 0] 49), (1, .cells (mm W xs ys) 25), (0, .cells (mm W xs ys) 25)], 3⟩ [((oErr W xs ys ((s + 1) * 4294967296 + 0)) != 0) = true] ⟨bne_iff_ne.2 (by omega), trivial⟩ ?_
        refine ct ?_
        refine rg [] 3 ⟨[(7, .i (oErr W xs ys ((s + 1) * 4294967296 + 0))), (6, .nils), (44, .i (oErr W xs ys ((s + 1) * 4294967296 + 0))), (43, .t), (42, .i (oErr W xs ys ((s + 1) * 4294967296 + 0))), (12, .i (oErr W xs ys ((s + 1) * 4294967296 + 0))), (11, .p 2), (41, .i (oErr W xs ys ((s + 1) * 4294967296 + 0))), (40, .agg [.i 0, .i 0, .u 0]), (36, .tup [.agg [.i 0, .i 0, .u 0], .i (oErr W xs ys ((s + 1) * 4294967296 + 0))]), (39, .tup [.agg [.i 0, .i 0, .u 0], .i (oErr W xs ys ((s + 1) * 4294967296 + 0))]), (38, .u ((s + 1) * 4294967296 + 0)), (37, .agg (mm W xs ys)), (10, .u ((s + 1) * 4294967296 + 0)), (35, .u ((s + 1) * 4294967296 + 0)), (34, .i 0), (33, .i s), (31, .bool (decide (lim ≤ 0))), (30, .i lim), (29, .i 0), (9, .i 0), (8, .nils), (28, .bool (decide (W < lim))), (27, .bool (decide (W < lim))), (26, .i W), (25, .p 1), (24, .i lim), (23, .f), (22, .bool (decide (lim < 0))), (21, .bool (decide (lim < 0))), (20, .i lim), (19, .f), (18, .bool (decide (1 < s))), (17, .bool (decide (1 < s))), (16, .i s), (15, .f), (14, .bool (decide (s < 0))), (13, .i s), (3, .p 1), (1, .i s), (2, .i lim)], [(2, .cells [.i 0, .i 0, .u 0] 49), (1, .cells (mm W xs ys) 25), (0, .cells (mm W xs ys) 25)], 3⟩ [] trivial ?_
        refine xw_ret ?_
        refine an_ret ?_
        refine j0_ret ?_
        refine ⟨.tup [.nils, .i (oErr W xs ys ((s + 1) * 4294967296 + 0))], by kernel_rfl, ?_⟩
        show XOi _ _ _ _ _ _ _ ⟨[(14, .tup [.nils, .int .i64 (oErr W xs ys ((s + 1) * 4294967296 + 0))]), (13, .int .i64 lim), (12, .int .i64 s), (11, .agg (mm W xs ys)), (7, .int .i64 0), (6, .nils), (3, .loc 0 0)], [(2, .cells [.int .i64 0, .int .i64 0, .int .u64 0] 49), (1, .cells (mm W xs ys) 25), (0, .cells (mm W xs ys) 25)], 3⟩
        refine rk [] 5 4 ⟨[(9, .i (oErr W xs ys ((s + 1) * 4294967296 + 0))), (8, .nils), (7, .i 0), (6, .nils), (3, .p 0)], [(0, .cells (mm W xs ys) 25)], 3⟩ [] trivial ?_
        refine en ?_
        refine an ?_
        refine xw_seq ?_
        refine reg ?_
        refine rk [] 2 0 ⟨[(18, .fn 22 [] [.p 0]), (17, .nils), (9, .i (oErr W xs ys ((s + 1) * 4294967296 + 0))), (7, .i 0), (6, .nils)], [(0, .cells (mm W xs ys) 25)], 3⟩ [] trivial ?_
        refine callx (f := 21) (args := [.nils, .fn 22 [] [.p 0]]) (d := (some 19)) (by kernel_rfl) (xcall_of TT_ok Try.func21 rfl (by decide) (Nat.le_of_ble_eq_true (by kernel_rfl)) ?_)
        refine rg [] 1 ⟨[(4, .nils), (0, .nils), (1, .fn 22 [] [.p 0])], [(0, .cells (mm W xs ys) 25)], 3⟩ [] trivial ?_
        refine xw_seq ?_
        refine reg ?_
        refine rk [] 2 0 ⟨[(9, .fn 22 [] [.p 0]), (8, .nils), (4, .nils), (0, .nils), (1, .fn 22 [] [.p 0])], [(0, .cells (mm W xs ys) 25)], 3⟩ [] trivial ?_
        refine callx (f := 38) (args := [.nils, .fn 22 [] [.p 0]]) (d := (some 10)) (by kernel_rfl) (xcall_of TT_ok Try.func38 rfl (by decide) (Nat.le_of_ble_eq_true (by kernel_rfl)) ?_)
        refine rg [] 1 ⟨[(4, .i 0), (0, .nils), (1, .fn 22 [] [.p 0])], [(0, .cells (mm W xs ys) 25)], 3⟩ [] trivial ?_
        refine xw_seq ?_
        refine rg [(1, .i 0)] 3 ⟨[(8, .i 0), (7, .i 0), (4, .i 0), (0, .nils), (1, .fn 22 [] [.p 0])], [(0, .cells (mm W xs ys) 25)], 3⟩ [(0 : Int) = 0] ⟨rfl, trivial⟩ ?_
        refine xw_block ?_
        refine xw_unroll 1 ?_
        refine ul_step ?_
        refine rg [(0, .f)] 1 ⟨[(9, .f), (8, .i 0), (7, .i 0), (4, .i 0), (0, .nils), (1, .fn 22 [] [.p 0])], [(0, .cells (mm W xs ys) 25)], 3⟩ [(decide (0 < 0)) = false] ⟨decide_eq_false (by omega), trivial⟩ ?_
        refine xw_seq ?_
        refine cf ?_
        refine xw_exit ?_
        refine an_exit ?_
        refine agu_exit ?_
        refine ib_same ?_
        refine an ?_
        refine rg [] 1 ⟨[(4, .i (-1))], [(0, .cells (mm W xs ys) 25)], 3⟩ [] trivial ?_
        refine xw_ret ?_
        refine ⟨.i (-1), by kernel_rfl, ?_⟩
        show XOi _ _ _ _ _ _ _ ⟨[(10, .int .i64 (-1)), (9, .fn 22 [] [.loc 0 0]), (8, .nils), (4, .nils), (0, .nils), (1, .fn 22 [] [.loc 0 0])], [(0, .cells (mm W xs ys) 25)], 3⟩
        refine rk [] 1 3 ⟨[(5, .i (-1)), (4, .nils), (0, .nils), (1, .fn 22 [] [.p 0])], [(0, .cells (mm W xs ys) 25)], 3⟩ [] trivial ?_
        refine en ?_
        refine an ?_
        refine xw_seq ?_
        refine rg [(1, .t)] 2 ⟨[(12, .t), (5, .i (-1)), (4, .nils), (0, .nils), (1, .fn 22 [] [.p 0])], [(0, .cells (mm W xs ys) 25)], 3⟩ [((-1) == (-1)) = true] ⟨beq_iff_eq.2 (by omega), trivial⟩ ?_
        refine ct ?_
        refine rg [] 2 ⟨[(4, .nils), (5, .i (-1)), (0, .nils), (1, .fn 22 [] [.p 0])], [(0, .cells (mm W xs ys) 25)], 3⟩ [] trivial ?_
        refine xw_ret ?_
        refine an_ret ?_
        refine ⟨.nils, by kernel_rfl, ?_⟩
        show XOi _ _ _ _ _ _ _ ⟨[(19, .nils), (18, .fn 22 [] [.loc 0 0]), (17, .nils), (9, .int .i64 (oErr W xs ys ((s + 1) * 4294967296 + 0))), (7, .int .i64 0), (6, .nils)], [(0, .cells (mm W xs ys) 25)], 3⟩
        refine rk [] 3 3 ⟨[(7, .i (oErr W xs ys ((s + 1) * 4294967296 + 0))), (6, .nils)], [], 3⟩ [] trivial ?_
        refine en ?_
        refine an ?_
        refine xw_ret ?_
        exact br (.tup [.nils, .i (oErr W xs ys ((s + 1) * 4294967296 + 0))]) (.tup [.nils, .i (wE W xs ys s lim)]) (wkd [((oErr W xs ys ((s + 1) * 4294967296 + 0)) : Int) = (wE W xs ys s lim)] (by kernel_rfl) ⟨(by first | rfl | omega | assumption | exact wE_end ‹_› (by omega) | exact wE_err ‹_› (by omega) (by omega) | exact wE_errn ‹_› (by omega) (by omega) | exact wE_big ‹_› (by omega) (by omega) (by omega) | exact wE_bign ‹_› (by omega) (by omega) (by omega) | exact wE_next ‹_› (by omega) (by omega) (by omega) (by omega)), trivial⟩) (Or.inr <| Or.inr <| ⟨(by omega), (by first | rfl | omega | assumption | exact wE_end ‹_› (by omega) | exact wE_err ‹_› (by omega) (by omega) | exact wE_errn ‹_› (by omega) (by omega) | exact wE_big ‹_› (by omega) (by omega) (by omega) | exact wE_bign ‹_› (by omega) (by omega) (by omega) | exact wE_next ‹_› (by omega) (by omega) (by omega) (by omega)), rfl⟩)
 ·
  rintro ⟨⟨i, out⟩, h0, h1, h2, h3, h4, h5, h6⟩
  try dsimp only at h0 h1 h2 h3 h4 h5 h6
  show XW _ _ _ _ _ _ ⟨[(7, .int .i64 0), (6, .nils), (3, .loc 1 0), (1, .int .i64 s), (2, .int .i64 lim), (8, .own 2), (9, .int .i64 i)], [(2, .row 1 35 (m64 out)), (1, .cells (mm W xs ys) 25), (0, .cells (mm W xs ys) 25)], 3⟩
  refine xw_seq ?_
  refine xw_skip ?_
  refine an ?_
  refine xw_seq ?_
  refine rg [(2, .bool (decide (lim ≤ i)))] 3 ⟨[(31, .bool (decide (lim ≤ i))), (30, .i lim), (29, .i i), (7, .i 0), (6, .nils), (3, .p 1), (1, .i s), (2, .i lim), (8, .own 2), (9, .i i)], [(2, .row 1 35 (m64 out)), (1, .cells (mm W xs ys) 25), (0, .cells (mm W xs ys) 25)], 3⟩ [(decide (lim ≤ i)) = (decide (lim ≤ i))] ⟨rfl, trivial⟩ ?_
  refine xw_cond (b := (decide (lim ≤ i))) (by kernel_rfl) (fun h7 => ?_) (fun h7 => ?_)
  ·
   replace h7 : lim ≤ i := of_decide_eq_true h7
   refine rg [] 3 ⟨[(7, .i 0), (6, .own 2), (32, .own 2), (31, .bool (decide (lim ≤ i))), (30, .i lim), (29, .i i), (3, .p 1), (1, .i s), (2, .i lim), (8, .own 2), (9, .i i)], [(2, .row 1 35 (m64 out)), (1, .cells (mm W xs ys) 25), (0, .cells (mm W xs ys) 25)], 3⟩ [] trivial ?_
   refine xw_ret ?_
   refine an_ret ?_
   refine j1_ret ?_
   refine ⟨.tup [.own 2, .i 0], by kernel_rfl, ?_⟩
   show XOi _ _ _ _ _ _ _ ⟨[(14, .tup [.own 2, .int .i64 0]), (13, .int .i64 lim), (12, .int .i64 s), (11, .agg (mm W xs ys)), (7, .int .i64 0), (6, .nils), (3, .loc 0 0)], [(2, .row 1 35 (m64 out)), (1, .cells (mm W xs ys) 25), (0, .cells (mm W xs ys) 25)], 3⟩
   refine rk [] 5 4 ⟨[(9, .i 0), (8, .own 2), (7, .i 0), (6, .nils), (3, .p 0)], [(2, .row 1 35 (m64 out)), (0, .cells (mm W xs ys) 25)], 3⟩ [] trivial ?_
   refine en ?_
   refine an ?_
   refine xw_seq ?_
   refine reg ?_
   refine rk [] 2 0 ⟨[(18, .fn 22 [] [.p 0]), (17, .own 2), (9, .i 0), (7, .i 0), (6, .nils)], [(2, .row 1 35 (m64 out)), (0, .cells (mm W xs ys) 25)], 3⟩ [] trivial ?_
   refine callx (f := 21) (args := [.own 2, .fn 22 [] [.p 0]]) (d := (some 19)) (by kernel_rfl) (xcall_of TT_ok Try.func21 rfl (by decide) (Nat.le_of_ble_eq_true (by kernel_rfl)) ?_)
   refine rg [] 1 ⟨[(4, .nils), (0, .own 2), (1, .fn 22 [] [.p 0])], [(2, .row 1 35 (m64 out)), (0, .cells (mm W xs ys) 25)], 3⟩ [] trivial ?_
   refine xw_seq ?_
   refine reg ?_
   refine rk [] 2 0 ⟨[(9, .fn 22 [] [.p 0]), (8, .own 2), (4, .nils), (0, .own 2), (1, .fn 22 [] [.p 0])], [(2, .row 1 35 (m64 out)), (0, .cells (mm W xs ys) 25)], 3⟩ [] trivial ?_
   refine callx (f := 38) (args := [.own 2, .fn 22 [] [.p 0]]) (d := (some 10)) (by kernel_rfl) (xcall_of TT_ok Try.func38 rfl (by decide) (Nat.le_of_ble_eq_true (by kernel_rfl)) ?_)
   refine rg [] 1 ⟨[(4, .i 0), (0, .own 2), (1, .fn 22 [] [.p 0])], [(2, .row 1 35 (m64 out)), (0, .cells (mm W xs ys) 25)], 3⟩ [] trivial ?_
   refine xw_seq ?_
   refine rg [(1, .i ((out).length : Int))] 3 ⟨[(8, .i 0), (7, .i ((out).length : Int)), (4, .i 0), (0, .own 2), (1, .fn 22 [] [.p 0])], [(2, .row 1 35 (m64 out)), (0, .cells (mm W xs ys) 25)], 3⟩ [((((m64 out)).length : Nat) : Int) = ((out).length : Int)] ⟨(by simp), trivial⟩ ?_
   refine xw_block ?_
   refine xw_loop (α := {q : Int // (0 ≤ q) ∧ (q ≤ (out.length : Int)) ∧ ((out.take (Int.toNat q)).filter (nf W xs ys) = out.take (Int.toNat q))}) (fun p => ⟨[(8, .i p.1), (7, .i ((out).length : Int)), (4, .i 0), (0, .own 2), (1, .fn 22 [] [.p 0])], [(2, .row 1 35 (m64 out)), (0, .cells (mm W xs ys) 25)], 3⟩) (fun p => ((out.length : Int) - p.1).toNat) ⟨0, ⟨(by omega), (by omega), (by first | omega | rfl | assumption | exact flt_step (by assumption) (by omega) (by omega) (by simp_all [nf]))⟩⟩ (le_of [] [(0 : Int) = 0, (((out).length : Int) : Int) = ((out).length : Int), (0 : Int) = 0, ((m64 out) : List SV) = (m64 out), (W : Int) = W, (false = true → false = true), ((m64 xs) : List SV) = (m64 xs), (false = true → false = true), ((m64 ys) : List SV) = (m64 ys)] (by kernel_rfl) ⟨rfl, rfl, rfl, rfl, rfl, id, rfl, id, rfl, trivial⟩) ?_
   rintro ⟨j2, h8, h9, h10⟩
   show XW _ _ _ _ _ _ ⟨[(8, .int .i64 j2), (7, .int .i64 ((out).length : Int)), (4, .int .i64 0), (0, .own 2), (1, .fn 22 [] [.loc 0 0])], [(2, .row 1 35 (m64 out)), (0, .cells (mm W xs ys) 25)], 3⟩
   refine rg [(0, .bool (decide (j2 < ((out).length : Int))))] 1 ⟨[(9, .bool (decide (j2 < ((out).length : Int)))), (8, .i j2), (7, .i ((out).length : Int)), (4, .i 0), (0, .own 2), (1, .fn 22 [] [.p 0])], [(2, .row 1 35 (m64 out)), (0, .cells (mm W xs ys) 25)], 3⟩ [(decide (j2 < ((out).length : Int))) = (decide (j2 < ((out).length : Int)))] ⟨rfl, trivial⟩ ?_
   refine xw_seq ?_
   refine xw_cond (b := (decide (j2 < ((out).length : Int)))) (by kernel_rfl) (fun h11 => ?_) (fun h11 => ?_)
   ·
    replace h11 : j2 < (out.length : Int) := of_decide_eq_true h11
    refine xw_skip ?_
    refine an ?_
    refine xw_seq ?_
    refine xw_block ?_
    refine rg [] 2 ⟨[(5, .i j2), (8, .i j2), (7, .i ((out).length : Int)), (4, .i 0), (0, .own 2), (1, .fn 22 [] [.p 0])], [(2, .row 1 35 (m64 out)), (0, .cells (mm W xs ys) 25)], 3⟩ [] trivial ?_
    refine xw_seq ?_
    refine reg ?_
    refine rk [(4, .u (ix out j2))] 5 0 ⟨[(15, .u (ix out j2)), (11, .fn 22 [] [.p 0]), (5, .i j2), (8, .i j2), (7, .i ((out).length : Int)), (4, .i 0), (0, .own 2), (1, .fn 22 [] [.p 0])], [(2, .row 1 35 (m64 out)), (0, .cells (mm W xs ys) 25)], 3⟩ [(0 : Int) ≤ j2 ∧ j2 < ((((m64 out)).length : Nat) : Int), ((m64 out))[(j2 : Int).toNat]? = some (.u (ix out j2))] ⟨⟨by omega, (by first | omega | (simp only [len_st]; omega) | (simp; done) | (simp; omega) | (simp [len_st, len_stx, len_sty, len_zx, len_zy]; omega) | (have hc := len_clr; first | (simp; refine Int.le_trans ?_ (Int.ofNat_le.2 (hc _ _ _)); omega) | (refine Int.lt_of_lt_of_le ?_ (Int.ofNat_le.2 (hc _ _ _)); omega)))⟩, ((ix_ok (by omega) (by first | omega | (simp only [len_st]; omega) | (simp; done) | (simp; omega) | (simp [len_st, len_stx, len_sty, len_zx, len_zy]; omega) | (have hc := len_clr; first | (simp; refine Int.le_trans ?_ (Int.ofNat_le.2 (hc _ _ _)); omega) | (refine Int.lt_of_lt_of_le ?_ (Int.ofNat_le.2 (hc _ _ _)); omega)))).2.2), trivial⟩ ?_
    have h12 : 0 ≤ (ix out j2) ∧ (ix out j2) ≤ 18446744073709551615 := U64s.ix (by first | assumption | exact U64s.st (by assumption) _ (by omega)) _
    refine callx (f := 22) (args := [.u (ix out j2), .p 0]) (d := (some 16)) (by kernel_rfl) (xcall_of TT_ok Try.func22 rfl (by decide) (Nat.le_of_ble_eq_true (by kernel_rfl)) ?_)
    refine rg [] 1 ⟨[(3, .f), (0, .u (ix out j2)), (1, .p 0)], [(2, .row 1 35 (m64 out)), (0, .cells (mm W xs ys) 25)], 3⟩ [] trivial ?_
    refine xw_seq ?_
    refine reg ?_
    refine rk [] 2 0 ⟨[(5, .u (ix out j2)), (4, .agg (mm W xs ys)), (3, .f)], [(2, .row 1 35 (m64 out)), (0, .cells (mm W xs ys) 25)], 3⟩ [True] ⟨trivial, trivial⟩ ?_
    refine pc (wfiller W xs ys (ix out j2) ‹_› ‹_› ‹_› ‹_› ‹_› ‹_›) ?_
    refine rk [] 1 3 ⟨[(3, .bool (isFil W xs ys (ix out j2)))], [(2, .row 1 35 (m64 out)), (0, .cells (mm W xs ys) 25)], 3⟩ [] trivial ?_
    refine en ?_
    refine an ?_
    refine xw_ret ?_
    refine ⟨.bool (isFil W xs ys (ix out j2)), by kernel_rfl, ?_⟩
    show XOi _ _ _ _ _ _ _ ⟨[(16, .bool (isFil W xs ys (ix out j2))), (15, .int .u64 (ix out j2)), (11, .fn 22 [] [.loc 0 0]), (5, .int .i64 j2), (8, .int .i64 j2), (7, .int .i64 ((out).length : Int)), (4, .int .i64 0), (0, .own 2), (1, .fn 22 [] [.loc 0 0])], [(2, .row 1 35 (m64 out)), (0, .cells (mm W xs ys) 25)], 3⟩
    refine en ?_
    refine an ?_
    refine xw_cond (b := (isFil W xs ys (ix out j2))) (by kernel_rfl) (fun h13 => ?_) (fun h13 => ?_)
    ·
     replace h13 : isFil W xs ys (ix out j2) = true := h13
     refine rg [] 2 ⟨[(4, .i j2), (8, .i j2), (7, .i ((out).length : Int)), (0, .own 2), (1, .fn 22 [] [.p 0])], [(2, .row 1 35 (m64 out)), (0, .cells (mm W xs ys) 25)], 3⟩ [] trivial ?_
     refine xw_ret ?_
     refine ib_ret ?_
     refine an_ret ?_
     refine ag_ret ?_
     refine ib_ret ?_
     refine an_ret ?_
     refine ⟨.i j2, by kernel_rfl, ?_⟩
     show XOi _ _ _ _ _ _ _ ⟨[(10, .int .i64 j2), (9, .fn 22 [] [.loc 0 0]), (8, .own 2), (4, .nils), (0, .own 2), (1, .fn 22 [] [.loc 0 0])], [(2, .row 1 35 (m64 out)), (0, .cells (mm W xs ys) 25)], 3⟩
     refine rk [] 1 3 ⟨[(5, .i j2), (4, .nils), (0, .own 2), (1, .fn 22 [] [.p 0])], [(2, .row 1 35 (m64 out)), (0, .cells (mm W xs ys) 25)], 3⟩ [] trivial ?_
     refine en ?_
     refine an ?_
     refine xw_seq ?_
     refine rg [(1, .f)] 2 ⟨[(12, .f), (5, .i j2), (4, .nils), (0, .own 2), (1, .fn 22 [] [.p 0])], [(2, .row 1 35 (m64 out)), (0, .cells (mm W xs ys) 25)], 3⟩ [(j2 == (-1)) = false] ⟨beq_eq_false_iff_ne.2 (by omega), trivial⟩ ?_
     refine cf ?_
     refine xw_skip ?_
     refine an ?_
     refine xw_seq ?_
     refine rg [(1, .i (j2 + 1))] 3 ⟨[(6, .i (j2 + 1)), (5, .i j2), (4, .nils), (0, .own 2), (1, .fn 22 [] [.p 0])], [(2, .row 1 35 (m64 out)), (0, .cells (mm W xs ys) 25)], 3⟩ [IntKind.i64.wrap (j2 + 1) = (j2 + 1)] ⟨i64_eq (by omega) (by omega), trivial⟩ ?_
     refine xw_block ?_
     refine xw_loop (α := {q : Int × Int × List Int // (0 ≤ q.1) ∧ (q.1 < q.2.1) ∧ (q.2.1 ≤ (out.length : Int)) ∧ ((q.2.2.length : Int) = (out.length : Int)) ∧ (q.2.2.take (Int.toNat q.1) = (out.take (Int.toNat q.2.1)).filter (nf W xs ys)) ∧ (q.2.2.drop (Int.toNat q.2.1) = out.drop (Int.toNat q.2.1)) ∧ (U64s q.2.2)}) (fun p => ⟨[(6, .i p.1.2.1), (5, .i p.1.1), (4, .nils), (0, .own 2), (1, .fn 22 [] [.p 0])], [(2, .row 1 35 (m64 p.1.2.2)), (0, .cells (mm W xs ys) 25)], 3⟩) (fun p => ((out.length : Int) - p.1.2.1).toNat) ⟨(j2, (j2 + 1), out), ⟨(show 0 ≤ j2 by omega), (show j2 < (j2 + 1) by omega), (show (j2 + 1) ≤ (out.length : Int) by omega), (show (out.length : Int) = (out.length : Int) by omega), (show out.take (Int.toNat j2) = (out.take (Int.toNat (j2 + 1))).filter (nf W xs ys) by first | omega | rfl | assumption | (rw [len_st]; assumption) | exact U64s.st (by assumption) _ (by omega) | exact df_first (by assumption) (by omega) (by omega) (by simp_all [nf]) | exact df_skip (by assumption) (by assumption) (by omega) (by omega) (by simp_all [nf]) | exact df_keep (by assumption) (by assumption) (by omega) (by omega) (by omega) (by omega) (by simp_all [nf]) | exact df_drop (by assumption) (by omega) (by omega) | exact drop_next (by assumption) (by omega)), (show out.drop (Int.toNat (j2 + 1)) = out.drop (Int.toNat (j2 + 1)) by first | omega | rfl | assumption | (rw [len_st]; assumption) | exact U64s.st (by assumption) _ (by omega) | exact df_first (by assumption) (by omega) (by omega) (by simp_all [nf]) | exact df_skip (by assumption) (by assumption) (by omega) (by omega) (by simp_all [nf]) | exact df_keep (by assumption) (by assumption) (by omega) (by omega) (by omega) (by omega) (by simp_all [nf]) | exact df_drop (by assumption) (by omega) (by omega) | exact drop_next (by assumption) (by omega)), (show U64s out by omega)⟩⟩ (le_of [] [((j2 + 1) : Int) = (j2 + 1), (j2 : Int) = j2, ((m64 out) : List SV) = (m64 out), (W : Int) = W, (false = true → false = true), ((m64 xs) : List SV) = (m64 xs), (false = true → false = true), ((m64 ys) : List SV) = (m64 ys)] (by kernel_rfl) ⟨rfl, rfl, rfl, rfl, id, rfl, id, rfl, trivial⟩) ?_
     rintro ⟨⟨i3, j3, R3⟩, h14, h15, h16, h17, h18, h19, h20⟩
     try dsimp only at h14 h15 h16 h17 h18 h19 h20
     show XW _ _ _ _ _ _ ⟨[(6, .int .i64 j3), (5, .int .i64 i3), (4, .nils), (0, .own 2), (1, .fn 22 [] [.loc 0 0])], [(2, .row 1 35 (m64 R3)), (0, .cells (mm W xs ys) 25)], 3⟩
     refine xw_seq ?_
     refine rg [(2, .i ((R3).length : Int)), (3, .bool (decide (j3 < ((R3).length : Int))))] 4 ⟨[(19, .bool (decide (j3 < ((R3).length : Int)))), (6, .i j3), (5, .i i3), (4, .nils), (0, .own 2), (1, .fn 22 [] [.p 0])], [(2, .row 1 35 (m64 R3)), (0, .cells (mm W xs ys) 25)], 3⟩ [((((m64 R3)).length : Nat) : Int) = ((R3).length : Int), (decide (j3 < ((R3).length : Int))) = (decide (j3 < ((R3).length : Int)))] ⟨(by simp), rfl, trivial⟩ ?_
     refine xw_cond (b := (decide (j3 < ((R3).length : Int)))) (by kernel_rfl) (fun h21 => ?_) (fun h21 => ?_)
     ·
      replace h21 : j3 < (R3.length : Int) := of_decide_eq_true h21
      refine xw_skip ?_
      refine an ?_
      refine xw_seq ?_
      refine xw_block ?_
      refine xw_seq ?_
      refine reg ?_
      refine rk [(3, .u (ix R3 j3))] 4 0 ⟨[(25, .u (ix R3 j3)), (6, .i j3), (5, .i i3), (4, .nils), (0, .own 2), (1, .fn 22 [] [.p 0])], [(2, .row 1 35 (m64 R3)), (0, .cells (mm W xs ys) 25)], 3⟩ [(0 : Int) ≤ j3 ∧ j3 < ((((m64 R3)).length : Nat) : Int), ((m64 R3))[(j3 : Int).toNat]? = some (.u (ix R3 j3))] ⟨⟨by omega, (by first | omega | (simp only [len_st]; omega) | (simp; done) | (simp; omega) | (simp [len_st, len_stx, len_sty, len_zx, len_zy]; omega) | (have hc := len_clr; first | (simp; refine Int.le_trans ?_ (Int.ofNat_le.2 (hc _ _ _)); omega) | (refine Int.lt_of_lt_of_le ?_ (Int.ofNat_le.2 (hc _ _ _)); omega)))⟩, ((ix_ok (by omega) (by first | omega | (simp only [len_st]; omega) | (simp; done) | (simp; omega) | (simp [len_st, len_stx, len_sty, len_zx, len_zy]; omega) | (have hc := len_clr; first | (simp; refine Int.le_trans ?_ (Int.ofNat_le.2 (hc _ _ _)); omega) | (refine Int.lt_of_lt_of_le ?_ (Int.ofNat_le.2 (hc _ _ _)); omega)))).2.2), trivial⟩ ?_
      have h22 : 0 ≤ (ix R3 j3) ∧ (ix R3 j3) ≤ 18446744073709551615 := U64s.ix (by first | assumption | exact U64s.st (by assumption) _ (by omega)) _
      refine rk [] 1 4 ⟨[(7, .u (ix R3 j3)), (6, .i j3), (5, .i i3), (4, .nils), (0, .own 2), (1, .fn 22 [] [.p 0])], [(2, .row 1 35 (m64 R3)), (0, .cells (mm W xs ys) 25)], 3⟩ [] trivial ?_
      refine en ?_
      refine an ?_
      refine xw_seq ?_
      refine reg ?_
      refine rk [] 2 0 ⟨[(27, .u (ix R3 j3)), (26, .fn 22 [] [.p 0]), (7, .u (ix R3 j3)), (6, .i j3), (5, .i i3), (4, .nils), (0, .own 2), (1, .fn 22 [] [.p 0])], [(2, .row 1 35 (m64 R3)), (0, .cells (mm W xs ys) 25)], 3⟩ [] trivial ?_
      refine callx (f := 22) (args := [.u (ix R3 j3), .p 0]) (d := (some 28)) (by kernel_rfl) (xcall_of TT_ok Try.func22 rfl (by decide) (Nat.le_of_ble_eq_true (by kernel_rfl)) ?_)
      refine rg [] 1 ⟨[(3, .f), (0, .u (ix R3 j3)), (1, .p 0)], [(2, .row 1 35 (m64 R3)), (0, .cells (mm W xs ys) 25)], 3⟩ [] trivial ?_
      refine xw_seq ?_
      refine reg ?_
      refine rk [] 2 0 ⟨[(5, .u (ix R3 j3)), (4, .agg (mm W xs ys)), (3, .f)], [(2, .row 1 35 (m64 R3)), (0, .cells (mm W xs ys) 25)], 3⟩ [True] ⟨trivial, trivial⟩ ?_
      refine pc (wfiller W xs ys (ix R3 j3) ‹_› ‹_› ‹_› ‹_› ‹_› ‹_›) ?_
      refine rk [] 1 3 ⟨[(3, .bool (isFil W xs ys (ix R3 j3)))], [(2, .row 1 35 (m64 R3)), (0, .cells (mm W xs ys) 25)], 3⟩ [] trivial ?_
      refine en ?_
      refine an ?_
      refine xw_ret ?_
      refine ⟨.bool (isFil W xs ys (ix R3 j3)), by kernel_rfl, ?_⟩
      show XOi _ _ _ _ _ _ _ ⟨[(28, .bool (isFil W xs ys (ix R3 j3))), (27, .int .u64 (ix R3 j3)), (26, .fn 22 [] [.loc 0 0]), (7, .int .u64 (ix R3 j3)), (6, .int .i64 j3), (5, .int .i64 i3), (4, .nils), (0, .own 2), (1, .fn 22 [] [.loc 0 0])], [(2, .row 1 35 (m64 R3)), (0, .cells (mm W xs ys) 25)], 3⟩
      refine rk [] 1 3 ⟨[(29, .bool (!(isFil W xs ys (ix R3 j3)))), (7, .u (ix R3 j3)), (6, .i j3), (5, .i i3), (4, .nils), (0, .own 2), (1, .fn 22 [] [.p 0])], [(2, .row 1 35 (m64 R3)), (0, .cells (mm W xs ys) 25)], 3⟩ [] trivial ?_
      refine en ?_
      refine an ?_
      refine xw_cond (b := (!(isFil W xs ys (ix R3 j3)))) (by kernel_rfl) (fun h23 => ?_) (fun h23 => ?_)
      ·
       replace h23 : isFil W xs ys (ix R3 j3) = false := by first | (simp; done) | simpa using h23 | (simp at h23; omega)
       refine xw_seq ?_
       refine reg ?_
       refine rk [] 5 0 ⟨[(6, .i j3), (5, .i i3), (4, .nils), (0, .own 2), (1, .fn 22 [] [.p 0])], [(2, .row 1 35 (((m64 R3)).set ((i3 : Int).toNat) (.u (ix R3 j3)))), (0, .cells (mm W xs ys) 25)], 3⟩ [(0 : Int) ≤ i3 ∧ i3 < ((((m64 R3)).length : Nat) : Int), ((i3 : Int).toNat) < ((m64 R3)).length] ⟨⟨by omega, (by first | omega | (simp only [len_st]; omega) | (simp; done) | (simp; omega) | (simp [len_st, len_stx, len_sty, len_zx, len_zy]; omega) | (have hc := len_clr; first | (simp; refine Int.le_trans ?_ (Int.ofNat_le.2 (hc _ _ _)); omega) | (refine Int.lt_of_lt_of_le ?_ (Int.ofNat_le.2 (hc _ _ _)); omega)))⟩, (by first | omega | (simp only [len_st]; omega) | (simp; done) | (simp; omega) | (simp [len_st, len_stx, len_sty, len_zx, len_zy]; omega) | (have hc := len_clr; first | (simp; refine Int.le_trans ?_ (Int.ofNat_le.2 (hc _ _ _)); omega) | (refine Int.lt_of_lt_of_le ?_ (Int.ofNat_le.2 (hc _ _ _)); omega))), trivial⟩ ?_
       refine setr 2 (z := 1) (E := 35) (L := (((m64 R3)).set ((i3 : Int).toNat) (.u (ix R3 j3)))) (L' := (m64 (st R3 (i3) (ix R3 j3)))) (by kernel_rfl) set_map ?_
       refine en ?_
       refine an ?_
       refine re [(1, .i (i3 + 1))] 3 ⟨[(5, .i (i3 + 1)), (6, .i j3), (4, .nils), (0, .own 2), (1, .fn 22 [] [.p 0])], [(2, .row 1 35 (m64 (st R3 (i3) (ix R3 j3)))), (0, .cells (mm W xs ys) 25)], 3⟩ [IntKind.i64.wrap (i3 + 1) = (i3 + 1)] ⟨i64_eq (by omega) (by omega), trivial⟩ ?_
       refine ib ?_
       refine an ?_
       refine re [(1, .i (j3 + 1))] 3 ⟨[(6, .i (j3 + 1)), (5, .i (i3 + 1)), (4, .nils), (0, .own 2), (1, .fn 22 [] [.p 0])], [(2, .row 1 35 (m64 (st R3 (i3) (ix R3 j3)))), (0, .cells (mm W xs ys) 25)], 3⟩ [IntKind.i64.wrap (j3 + 1) = (j3 + 1)] ⟨i64_eq (by omega) (by omega), trivial⟩ ?_
       exact ag ⟨((i3 + 1), (j3 + 1), (st R3 (i3) (ix R3 j3))), ⟨(show 0 ≤ (i3 + 1) by omega), (show (i3 + 1) < (j3 + 1) by omega), (show (j3 + 1) ≤ (out.length : Int) by omega), (show ((st R3 (i3) (ix R3 j3)).length : Int) = (out.length : Int) by first | omega | rfl | assumption | (rw [len_st]; assumption) | exact U64s.st (by assumption) _ (by omega) | exact df_first (by assumption) (by omega) (by omega) (by simp_all [nf]) | exact df_skip (by assumption) (by assumption) (by omega) (by omega) (by simp_all [nf]) | exact df_keep (by assumption) (by assumption) (by omega) (by omega) (by omega) (by omega) (by simp_all [nf]) | exact df_drop (by assumption) (by omega) (by omega) | exact drop_next (by assumption) (by omega)), (show (st R3 (i3) (ix R3 j3)).take (Int.toNat (i3 + 1)) = (out.take (Int.toNat (j3 + 1))).filter (nf W xs ys) by first | omega | rfl | assumption | (rw [len_st]; assumption) | exact U64s.st (by assumption) _ (by omega) | exact df_first (by assumption) (by omega) (by omega) (by simp_all [nf]) | exact df_skip (by assumption) (by assumption) (by omega) (by omega) (by simp_all [nf]) | exact df_keep (by assumption) (by assumption) (by omega) (by omega) (by omega) (by omega) (by simp_all [nf]) | exact df_drop (by assumption) (by omega) (by omega) | exact drop_next (by assumption) (by omega)), (show (st R3 (i3) (ix R3 j3)).drop (Int.toNat (j3 + 1)) = out.drop (Int.toNat (j3 + 1)) by first | omega | rfl | assumption | (rw [len_st]; assumption) | exact U64s.st (by assumption) _ (by omega) | exact df_first (by assumption) (by omega) (by omega) (by simp_all [nf]) | exact df_skip (by assumption) (by assumption) (by omega) (by omega) (by simp_all [nf]) | exact df_keep (by assumption) (by assumption) (by omega) (by omega) (by omega) (by omega) (by simp_all [nf]) | exact df_drop (by assumption) (by omega) (by omega) | exact drop_next (by assumption) (by omega)), (show U64s (st R3 (i3) (ix R3 j3)) by first | omega | rfl | assumption | (rw [len_st]; assumption) | exact U64s.st (by assumption) _ (by omega) | exact df_first (by assumption) (by omega) (by omega) (by simp_all [nf]) | exact df_skip (by assumption) (by assumption) (by omega) (by omega) (by simp_all [nf]) | exact df_keep (by assumption) (by assumption) (by omega) (by omega) (by omega) (by omega) (by simp_all [nf]) | exact df_drop (by assumption) (by omega) (by omega) | exact drop_next (by assumption) (by omega))⟩⟩ (le_of [] [((j3 + 1) : Int) = (j3 + 1), ((i3 + 1) : Int) = (i3 + 1), ((m64 (st R3 (i3) (ix R3 j3))) : List SV) = (m64 (st R3 (i3) (ix R3 j3))), (W : Int) = W, (false = true → false = true), ((m64 xs) : List SV) = (m64 xs), (false = true → false = true), ((m64 ys) : List SV) = (m64 ys)] (by kernel_rfl) ⟨rfl, rfl, rfl, rfl, id, rfl, id, rfl, trivial⟩) (by show ((out.length : Int) - (j3 + 1)).toNat < ((out.length : Int) - j3).toNat; omega)
      ·
       replace h23 : isFil W xs ys (ix R3 j3) = true := by first | (simp; done) | simpa using h23
       refine xw_skip ?_
       refine ib ?_
       refine an ?_
       refine re [(1, .i (j3 + 1))] 3 ⟨[(6, .i (j3 + 1)), (5, .i i3), (4, .nils), (0, .own 2), (1, .fn 22 [] [.p 0])], [(2, .row 1 35 (m64 R3)), (0, .cells (mm W xs ys) 25)], 3⟩ [IntKind.i64.wrap (j3 + 1) = (j3 + 1)] ⟨i64_eq (by omega) (by omega), trivial⟩ ?_
       exact ag ⟨(i3, (j3 + 1), R3), ⟨(show 0 ≤ i3 by omega), (show i3 < (j3 + 1) by omega), (show (j3 + 1) ≤ (out.length : Int) by omega), (show (R3.length : Int) = (out.length : Int) by omega), (show R3.take (Int.toNat i3) = (out.take (Int.toNat (j3 + 1))).filter (nf W xs ys) by first | omega | rfl | assumption | (rw [len_st]; assumption) | exact U64s.st (by assumption) _ (by omega) | exact df_first (by assumption) (by omega) (by omega) (by simp_all [nf]) | exact df_skip (by assumption) (by assumption) (by omega) (by omega) (by simp_all [nf]) | exact df_keep (by assumption) (by assumption) (by omega) (by omega) (by omega) (by omega) (by simp_all [nf]) | exact df_drop (by assumption) (by omega) (by omega) | exact drop_next (by assumption) (by omega)), (show R3.drop (Int.toNat (j3 + 1)) = out.drop (Int.toNat (j3 + 1)) by first | omega | rfl | assumption | (rw [len_st]; assumption) | exact U64s.st (by assumption) _ (by omega) | exact df_first (by assumption) (by omega) (by omega) (by simp_all [nf]) | exact df_skip (by assumption) (by assumption) (by omega) (by omega) (by simp_all [nf]) | exact df_keep (by assumption) (by assumption) (by omega) (by omega) (by omega) (by omega) (by simp_all [nf]) | exact df_drop (by assumption) (by omega) (by omega) | exact drop_next (by assumption) (by omega)), (show U64s R3 by omega)⟩⟩ (le_of [] [((j3 + 1) : Int) = (j3 + 1), (i3 : Int) = i3, ((m64 R3) : List SV) = (m64 R3), (W : Int) = W, (false = true → false = true), ((m64 xs) : List SV) = (m64 xs), (false = true → false = true), ((m64 ys) : List SV) = (m64 ys)] (by kernel_rfl) ⟨rfl, rfl, rfl, rfl, id, rfl, id, rfl, trivial⟩) (by show ((out.length : Int) - (j3 + 1)).toNat < ((out.length : Int) - j3).toNat; omega)
     ·
      replace h21 : ¬ (j3 < (R3.length : Int)) := of_decide_eq_false h21
      refine xw_exit ?_
      refine an_exit ?_
      refine ag_exit ?_
      refine ib_same ?_
      refine an ?_
      refine xw_seq ?_
      refine reg ?_
      refine rk [] 4 0 ⟨[(5, .i i3), (4, .nils), (0, .own 2)], [(2, .row 1 35 ((((m64 R3) : List SV)).take (i3 : Int).toNat ++ List.replicate (((m64 R3)).length - (i3 : Int).toNat) (.u 0 : SV) ++ (((m64 R3) : List SV)).drop ((i3 : Int).toNat + (((m64 R3)).length - (i3 : Int).toNat))))], 3⟩ [(0 : Int) ≤ i3 ∧ i3 ≤ ((((m64 R3)).length : Nat) : Int) ∧ ((m64 R3)) ≠ [], (i3 : Int).toNat + (((m64 R3)).length - (i3 : Int).toNat) = (((m64 R3) : List SV)).length] ⟨⟨by omega, by first | omega | (simp only [len_st]; omega) | (simp; done) | (simp; omega) | (simp [len_st, len_stx, len_sty, len_zx, len_zy]; omega) | (have hc := len_clr; first | (simp; refine Int.le_trans ?_ (Int.ofNat_le.2 (hc _ _ _)); omega) | (refine Int.lt_of_lt_of_le ?_ (Int.ofNat_le.2 (hc _ _ _)); omega)), ne_map (by first | omega | (simp only [len_st]; omega) | (simp; done) | (simp; omega) | (simp [len_st, len_stx, len_sty, len_zx, len_zy]; omega) | (have hc := len_clr; first | (simp; refine Int.le_trans ?_ (Int.ofNat_le.2 (hc _ _ _)); omega) | (refine Int.lt_of_lt_of_le ?_ (Int.ofNat_le.2 (hc _ _ _)); omega)))⟩, (by first | omega | (simp only [len_st]; omega) | (simp; done) | (simp; omega) | (simp [len_st, len_stx, len_sty, len_zx, len_zy]; omega) | (have hc := len_clr; first | (simp; refine Int.le_trans ?_ (Int.ofNat_le.2 (hc _ _ _)); omega) | (refine Int.lt_of_lt_of_le ?_ (Int.ofNat_le.2 (hc _ _ _)); omega))), trivial⟩ ?_
      refine setr 2 (z := 1) (E := 35) (L := ((((m64 R3) : List SV)).take (i3 : Int).toNat ++ List.replicate (((m64 R3)).length - (i3 : Int).toNat) (.u 0 : SV) ++ (((m64 R3) : List SV)).drop ((i3 : Int).toNat + (((m64 R3)).length - (i3 : Int).toNat)))) (L' := (m64 (clr R3 ((i3 : Int).toNat) (((m64 R3)).length - (i3 : Int).toNat)))) (by kernel_rfl) clr_map ?_
      refine en ?_
      refine an ?_
      refine xw_seq ?_
      refine reg ?_
      refine rk [] 3 0 ⟨[(41, .own 3), (4, .nils)], [(3, .row 1 35 (((m64 (clr R3 ((i3 : Int).toNat) (((m64 R3)).length - (i3 : Int).toNat)))).take (i3 : Int).toNat))], 4⟩ [(0 : Int) ≤ i3 ∧ i3 ≤ ((((m64 (clr R3 ((i3 : Int).toNat) (((m64 R3)).length - (i3 : Int).toNat)))).length : Nat) : Int) ∧ ((m64 (clr R3 ((i3 : Int).toNat) (((m64 R3)).length - (i3 : Int).toNat)))) ≠ []] ⟨⟨by omega, by first | omega | (simp only [len_st]; omega) | (simp; done) | (simp; omega) | (simp [len_st, len_stx, len_sty, len_zx, len_zy]; omega) | (have hc := len_clr; first | (simp; refine Int.le_trans ?_ (Int.ofNat_le.2 (hc _ _ _)); omega) | (refine Int.lt_of_lt_of_le ?_ (Int.ofNat_le.2 (hc _ _ _)); omega)), ne_map (by first | omega | (simp only [len_st]; omega) | (simp; done) | (simp; omega) | (simp [len_st, len_stx, len_sty, len_zx, len_zy]; omega) | (have hc := len_clr; first | (simp; refine Int.le_trans ?_ (Int.ofNat_le.2 (hc _ _ _)); omega) | (refine Int.lt_of_lt_of_le ?_ (Int.ofNat_le.2 (hc _ _ _)); omega)))⟩, trivial⟩ ?_
      refine setr 3 (z := 1) (E := 35) (L := (((m64 (clr R3 ((i3 : Int).toNat) (((m64 R3)).length - (i3 : Int).toNat)))).take (i3 : Int).toNat)) (L' := (m64 ((clr R3 ((i3 : Int).toNat) ((m64 R3).length - (i3 : Int).toNat)).take ((i3 : Int).toNat)))) (by kernel_rfl) take_map ?_
      refine rk [] 1 3 ⟨[(4, .own 3)], [(3, .row 1 35 (m64 ((clr R3 ((i3 : Int).toNat) ((m64 R3).length - (i3 : Int).toNat)).take ((i3 : Int).toNat))))], 4⟩ [] trivial ?_
      refine en ?_
      refine an ?_
      refine xw_ret ?_
      refine ⟨.own 3, by kernel_rfl, ?_⟩
      show XOi _ _ _ _ _ _ _ ⟨[(19, .own 3), (18, .fn 22 [] [.loc 0 0]), (17, .own 2), (9, .int .i64 0), (7, .int .i64 0), (6, .nils)], [(3, .row 1 35 (m64 ((clr R3 ((i3 : Int).toNat) ((m64 R3).length - (i3 : Int).toNat)).take ((i3 : Int).toNat))))], 4⟩
      refine rk [] 3 3 ⟨[(7, .i 0), (6, .own 3)], [(3, .row 1 35 (m64 ((clr R3 ((i3 : Int).toNat) ((m64 R3).length - (i3 : Int).toNat)).take ((i3 : Int).toNat))))], 4⟩ [] trivial ?_
      refine en ?_
      refine an ?_
      refine xw_ret ?_
      exact bk_ret (.tup [.own 3, .i 0]) (.tup [.sl false 1 (m64 ((clr R3 ((i3 : Int).toNat) ((m64 R3).length - (i3 : Int).toNat)).take ((i3 : Int).toNat))), .i 0]) (.tup [.sl false 1 (m64 (wO W xs ys s lim)), .i 0]) (by kernel_rfl) (by kernel_rfl) (wkd [(false = true → false = true), (m64 ((clr R3 ((i3 : Int).toNat) ((m64 R3).length - (i3 : Int).toNat)).take ((i3 : Int).toNat))) = (m64 (wO W xs ys s lim)), (0 : Int) = 0] (by kernel_rfl) ⟨id, (by first | rfl | (simp only [wO]; rw [← wA_end (A := wA W xs ys s lim) ‹_› (by omega)]; first | exact congrArg _ (df_end ‹_› (by omega) (by omega)) | exact congrArg _ (flt_all ‹_› (by omega)).symm | simp)), rfl, trivial⟩) (Or.inr <| Or.inl <| ⟨(by omega), (by first | rfl | omega | assumption | exact wE_end ‹_› (by omega) | exact wE_err ‹_› (by omega) (by omega) | exact wE_errn ‹_› (by omega) (by omega) | exact wE_big ‹_› (by omega) (by omega) (by omega) | exact wE_bign ‹_› (by omega) (by omega) (by omega) | exact wE_next ‹_› (by omega) (by omega) (by omega) (by omega)), rfl⟩)
    ·
     replace h13 : isFil W xs ys (ix out j2) = false := h13
     refine xw_skip ?_
     refine ib ?_
     refine an ?_
     refine re [(0, .i (j2 + 1))] 2 ⟨[(8, .i (j2 + 1)), (7, .i ((out).length : Int)), (4, .i 0), (0, .own 2), (1, .fn 22 [] [.p 0])], [(2, .row 1 35 (m64 out)), (0, .cells (mm W xs ys) 25)], 3⟩ [IntKind.i64.wrap (j2 + 1) = (j2 + 1)] ⟨i64_eq (by omega) (by omega), trivial⟩ ?_
     exact ag ⟨(j2 + 1), ⟨(by omega), (by omega), (by first | omega | rfl | assumption | exact flt_step (by assumption) (by omega) (by omega) (by simp_all [nf]))⟩⟩ (le_of [] [((j2 + 1) : Int) = (j2 + 1), (((out).length : Int) : Int) = ((out).length : Int), (0 : Int) = 0, ((m64 out) : List SV) = (m64 out), (W : Int) = W, (false = true → false = true), ((m64 xs) : List SV) = (m64 xs), (false = true → false = true), ((m64 ys) : List SV) = (m64 ys)] (by kernel_rfl) ⟨rfl, rfl, rfl, rfl, rfl, id, rfl, id, rfl, trivial⟩) (by show ((out.length : Int) - (j2 + 1)).toNat < ((out.length : Int) - j2).toNat; omega)
   ·
    replace h11 : ¬ (j2 < (out.length : Int)) := of_decide_eq_false h11
    refine xw_exit ?_
    refine an_exit ?_
    refine ag_exit ?_
    refine ib_same ?_
    refine an ?_
    refine rg [] 1 ⟨[(4, .i (-1))], [(2, .row 1 35 (m64 out)), (0, .cells (mm W xs ys) 25)], 3⟩ [] trivial ?_
    refine xw_ret ?_
    refine ⟨.i (-1), by kernel_rfl, ?_⟩
    show XOi _ _ _ _ _ _ _ ⟨[(10, .int .i64 (-1)), (9, .fn 22 [] [.loc 0 0]), (8, .own 2), (4, .nils), (0, .own 2), (1, .fn 22 [] [.loc 0 0])], [(2, .row 1 35 (m64 out)), (0, .cells (mm W xs ys) 25)], 3⟩
    refine rk [] 1 3 ⟨[(5, .i (-1)), (4, .nils), (0, .own 2), (1, .fn 22 [] [.p 0])], [(2, .row 1 35 (m64 out)), (0, .cells (mm W xs ys) 25)], 3⟩ [] trivial ?_
    refine en ?_
    refine an ?_
    refine xw_seq ?_
    refine rg [(1, .t)] 2 ⟨[(12, .t), (5, .i (-1)), (4, .nils), (0, .own 2), (1, .fn 22 [] [.p 0])], [(2, .row 1 35 (m64 out)), (0, .cells (mm W xs ys) 25)], 3⟩ [((-1) == (-1)) = true] ⟨beq_iff_eq.2 (by omega), trivial⟩ ?_
    refine ct ?_
    refine rg [] 2 ⟨[(4, .own 2), (5, .i (-1)), (0, .own 2), (1, .fn 22 [] [.p 0])], [(2, .row 1 35 (m64 out)), (0, .cells (mm W xs ys) 25)], 3⟩ [] trivial ?_
    refine xw_ret ?_
    refine an_ret ?_
    refine ⟨.own 2, by kernel_rfl, ?_⟩
    show XOi _ _ _ _ _ _ _ ⟨[(19, .own 2), (18, .fn 22 [] [.loc 0 0]), (17, .own 2), (9, .int .i64 0), (7, .int .i64 0), (6, .nils)], [(2, .row 1 35 (m64 out)), (0, .cells (mm W xs ys) 25)], 3⟩
    refine rk [] 3 3 ⟨[(7, .i 0), (6, .own 2)], [(2, .row 1 35 (m64 out))], 3⟩ [] trivial ?_
    refine en ?_
    refine an ?_
    refine xw_ret ?_
    exact bk_ret (.tup [.own 2, .i 0]) (.tup [.sl false 1 (m64 out), .i 0]) (.tup [.sl false 1 (m64 (wO W xs ys s lim)), .i 0]) (by kernel_rfl) (by kernel_rfl) (wkd [(false = true → false = true), (m64 out) = (m64 (wO W xs ys s lim)), (0 : Int) = 0] (by kernel_rfl) ⟨id, (by first | rfl | (simp only [wO]; rw [← wA_end (A := wA W xs ys s lim) ‹_› (by omega)]; first | exact congrArg _ (df_end ‹_› (by omega) (by omega)) | exact congrArg _ (flt_all ‹_› (by omega)).symm | simp)), rfl, trivial⟩) (Or.inr <| Or.inl <| ⟨(by omega), (by first | rfl | omega | assumption | exact wE_end ‹_› (by omega) | exact wE_err ‹_› (by omega) (by omega) | exact wE_errn ‹_› (by omega) (by omega) | exact wE_big ‹_› (by omega) (by omega) (by omega) | exact wE_bign ‹_› (by omega) (by omega) (by omega) | exact wE_next ‹_› (by omega) (by omega) (by omega) (by omega)), rfl⟩)
  ·
   replace h7 : ¬ (lim ≤ i) := of_decide_eq_false h7
   refine xw_skip ?_
   refine an ?_
   refine xw_seq ?_
   refine reg ?_
   refine rk [] 2 0 ⟨[(34, .i i), (33, .i s), (31, .bool (decide (lim ≤ i))), (30, .i lim), (29, .i i), (7, .i 0), (6, .nils), (3, .p 1), (1, .i s), (2, .i lim), (8, .own 2), (9, .i i)], [(2, .row 1 35 (m64 out)), (1, .cells (mm W xs ys) 25), (0, .cells (mm W xs ys) 25)], 3⟩ [] trivial ?_
   refine pc (addr_1 s i (by omega)) ?_
   refine rk [] 1 3 ⟨[(10, .u ((s + 1) * 4294967296 + i)), (35, .u ((s + 1) * 4294967296 + i)), (34, .i i), (33, .i s), (31, .bool (decide (lim ≤ i))), (30, .i lim), (29, .i i), (7, .i 0), (6, .nils), (3, .p 1), (1, .i s), (2, .i lim), (8, .own 2), (9, .i i)], [(2, .row 1 35 (m64 out)), (1, .cells (mm W xs ys) 25), (0, .cells (mm W xs ys) 25)], 3⟩ [] trivial ?_
   refine en ?_
   refine an ?_
   refine xw_seq ?_
   refine reg ?_
   refine rk [] 2 0 ⟨[(38, .u ((s + 1) * 4294967296 + i)), (37, .agg (mm W xs ys)), (10, .u ((s + 1) * 4294967296 + i)), (35, .u ((s + 1) * 4294967296 + i)), (34, .i i), (33, .i s), (31, .bool (decide (lim ≤ i))), (30, .i lim), (29, .i i), (7, .i 0), (6, .nils), (3, .p 1), (1, .i s), (2, .i lim), (8, .own 2), (9, .i i)], [(2, .row 1 35 (m64 out)), (1, .cells (mm W xs ys) 25), (0, .cells (mm W xs ys) 25)], 3⟩ [True] ⟨trivial, trivial⟩ ?_
   by_cases h8 : (oErr W xs ys ((s + 1) * 4294967296 + i)) = 0
   ·
    refine pc (oat_1 W xs ys ((s + 1) * 4294967296 + i) ‹_› ‹_› ‹_› ‹_› ‹_› (by omega) ‹_›) ?_
    obtain ⟨h9, h10, h11⟩ := oErr_ok W xs ys ((s + 1) * 4294967296 + i) ‹_›
    refine rk [] 6 3 ⟨[(12, .i 0), (11, .p 3), (41, .i 0), (40, .agg [.i (hT xs ys ((s + 1) * 4294967296 + i)), .i (hL xs ys ((s + 1) * 4294967296 + i)), .u (hM xs ys ((s + 1) * 4294967296 + i))]), (36, .tup [.agg [.i (hT xs ys ((s + 1) * 4294967296 + i)), .i (hL xs ys ((s + 1) * 4294967296 + i)), .u (hM xs ys ((s + 1) * 4294967296 + i))], .i 0]), (39, .tup [.agg [.i (hT xs ys ((s + 1) * 4294967296 + i)), .i (hL xs ys ((s + 1) * 4294967296 + i)), .u (hM xs ys ((s + 1) * 4294967296 + i))], .i 0]), (38, .u ((s + 1) * 4294967296 + i)), (37, .agg (mm W xs ys)), (10, .u ((s + 1) * 4294967296 + i)), (35, .u ((s + 1) * 4294967296 + i)), (34, .i i), (33, .i s), (31, .bool (decide (lim ≤ i))), (30, .i lim), (29, .i i), (7, .i 0), (6, .nils), (3, .p 1), (1, .i s), (2, .i lim), (8, .own 2), (9, .i i)], [(3, .cells [.i (hT xs ys ((s + 1) * 4294967296 + i)), .i (hL xs ys ((s + 1) * 4294967296 + i)), .u (hM xs ys ((s + 1) * 4294967296 + i))] 49), (2, .row 1 35 (m64 out)), (1, .cells (mm W xs ys) 25), (0, .cells (mm W xs ys) 25)], 4⟩ [True] ⟨trivial, trivial⟩ ?_
    refine en ?_
    refine an ?_
    refine xw_seq ?_
    refine rg [(1, .f)] 2 ⟨[(43, .f), (42, .i 0), (12, .i 0), (11, .p 3), (41, .i 0), (40, .agg [.i (hT xs ys ((s + 1) * 4294967296 + i)), .i (hL xs ys ((s + 1) * 4294967296 + i)), .u (hM xs ys ((s + 1) * 4294967296 + i))]), (36, .tup [.agg [.i (hT xs ys ((s + 1) * 4294967296 + i)), .i (hL xs ys ((s + 1) * 4294967296 + i)), .u (hM xs ys ((s + 1) * 4294967296 + i))], .i 0]), (39, .tup [.agg [.i (hT xs ys ((s + 1) * 4294967296 + i)), .i (hL xs ys ((s + 1) * 4294967296 + i)), .u (hM xs ys ((s + 1) * 4294967296 + i))], .i 0]), (38, .u ((s + 1) * 4294967296 + i)), (37, .agg (mm W xs ys)), (10, .u ((s + 1) * 4294967296 + i)), (35, .u ((s + 1) * 4294967296 + i)), (34, .i i), (33, .i s), (31, .bool (decide (lim ≤ i))), (30, .i lim), (29, .i i), (7, .i 0), (6, .nils), (3, .p 1), (1, .i s), (2, .i lim), (8, .own 2), (9, .i i)], [(3, .cells [.i (hT xs ys ((s + 1) * 4294967296 + i)), .i (hL xs ys ((s + 1) * 4294967296 + i)), .u (hM xs ys ((s + 1) * 4294967296 + i))] 49), (2, .row 1 35 (m64 out)), (1, .cells (mm W xs ys) 25), (0, .cells (mm W xs ys) 25)], 4⟩ [(0 != 0) = false] ⟨bne_eq_false_iff_eq.2 (by omega), trivial⟩ ?_
    refine cf ?_
    refine xw_skip ?_
    refine an ?_
    refine xw_seq ?_
    refine reg ?_
    refine rk [] 2 0 ⟨[(46, .agg [.i (hT xs ys ((s + 1) * 4294967296 + i)), .i (hL xs ys ((s + 1) * 4294967296 + i)), .u (hM xs ys ((s + 1) * 4294967296 + i))]), (45, .i i), (43, .f), (42, .i 0), (12, .i 0), (11, .p 3), (41, .i 0), (40, .agg [.i (hT xs ys ((s + 1) * 4294967296 + i)), .i (hL xs ys ((s + 1) * 4294967296 + i)), .u (hM xs ys ((s + 1) * 4294967296 + i))]), (36, .tup [.agg [.i (hT xs ys ((s + 1) * 4294967296 + i)), .i (hL xs ys ((s + 1) * 4294967296 + i)), .u (hM xs ys ((s + 1) * 4294967296 + i))], .i 0]), (39, .tup [.agg [.i (hT xs ys ((s + 1) * 4294967296 + i)), .i (hL xs ys ((s + 1) * 4294967296 + i)), .u (hM xs ys ((s + 1) * 4294967296 + i))], .i 0]), (38, .u ((s + 1) * 4294967296 + i)), (37, .agg (mm W xs ys)), (10, .u ((s + 1) * 4294967296 + i)), (35, .u ((s + 1) * 4294967296 + i)), (34, .i i), (33, .i s), (31, .bool (decide (lim ≤ i))), (30, .i lim), (29, .i i), (7, .i 0), (6, .nils), (3, .p 1), (1, .i s), (2, .i lim), (8, .own 2), (9, .i i)], [(3, .cells [.i (hT xs ys ((s + 1) * 4294967296 + i)), .i (hL xs ys ((s + 1) * 4294967296 + i)), .u (hM xs ys ((s + 1) * 4294967296 + i))] 49), (2, .row 1 35 (m64 out)), (1, .cells (mm W xs ys) 25), (0, .cells (mm W xs ys) 25)], 4⟩ [True] ⟨trivial, trivial⟩ ?_
    by_cases h12 : (ldw xs ys ((s + 1) * 4294967296 + i) / 72057594037927936) = 255
    ·
     refine pc (hwords_1 (ldw xs ys ((s + 1) * 4294967296 + i) / 72057594037927936) ((ldw xs ys ((s + 1) * 4294967296 + i) / 4294967296) % 16777216) (ldw xs ys ((s + 1) * 4294967296 + i) % 4294967296) (by omega) (by omega) (by omega) (by omega) ‹_›) ?_
     refine rk [(3, .i (i + (((ldw xs ys ((s + 1) * 4294967296 + i) / 4294967296) % 16777216) + 1)))] 2 3 ⟨[(9, .i (i + ((hL xs ys ((s + 1) * 4294967296 + i)) + 1))), (48, .i (i + ((hL xs ys ((s + 1) * 4294967296 + i)) + 1))), (47, .i ((hL xs ys ((s + 1) * 4294967296 + i)) + 1)), (46, .agg [.i (hT xs ys ((s + 1) * 4294967296 + i)), .i (hL xs ys ((s + 1) * 4294967296 + i)), .u (hM xs ys ((s + 1) * 4294967296 + i))]), (45, .i i), (43, .f), (42, .i 0), (12, .i 0), (11, .p 3), (41, .i 0), (40, .agg [.i (hT xs ys ((s + 1) * 4294967296 + i)), .i (hL xs ys ((s + 1) * 4294967296 + i)), .u (hM xs ys ((s + 1) * 4294967296 + i))]), (36, .tup [.agg [.i (hT xs ys ((s + 1) * 4294967296 + i)), .i (hL xs ys ((s + 1) * 4294967296 + i)), .u (hM xs ys ((s + 1) * 4294967296 + i))], .i 0]), (39, .tup [.agg [.i (hT xs ys ((s + 1) * 4294967296 + i)), .i (hL xs ys ((s + 1) * 4294967296 + i)), .u (hM xs ys ((s + 1) * 4294967296 + i))], .i 0]), (38, .u ((s + 1) * 4294967296 + i)), (37, .agg (mm W xs ys)), (10, .u ((s + 1) * 4294967296 + i)), (35, .u ((s + 1) * 4294967296 + i)), (34, .i i), (33, .i s), (31, .bool (decide (lim ≤ i))), (30, .i lim), (29, .i i), (7, .i 0), (6, .nils), (3, .p 1), (1, .i s), (2, .i lim), (8, .own 2)], [(3, .cells [.i (hT xs ys ((s + 1) * 4294967296 + i)), .i (hL xs ys ((s + 1) * 4294967296 + i)), .u (hM xs ys ((s + 1) * 4294967296 + i))] 49), (2, .row 1 35 (m64 out)), (1, .cells (mm W xs ys) 25), (0, .cells (mm W xs ys) 25)], 4⟩ [IntKind.i64.wrap (i + (((ldw xs ys ((s + 1) * 4294967296 + i) / 4294967296) % 16777216) + 1)) = (i + (((ldw xs ys ((s + 1) * 4294967296 + i) / 4294967296) % 16777216) + 1))] ⟨i64_eq (by omega) (by omega), trivial⟩ ?_
     refine en ?_
     refine an ?_
     refine xw_seq ?_
     refine rg [(2, .bool (decide (lim < (i + (((ldw xs ys ((s + 1) * 4294967296 + i) / 4294967296) % 16777216) + 1)))))] 3 ⟨[(51, .bool (decide (lim < (i + ((hL xs ys ((s + 1) * 4294967296 + i)) + 1))))), (50, .i lim), (49, .i (i + ((hL xs ys ((s + 1) * 4294967296 + i)) + 1))), (9, .i (i + ((hL xs ys ((s + 1) * 4294967296 + i)) + 1))), (48, .i (i + ((hL xs ys ((s + 1) * 4294967296 + i)) + 1))), (47, .i ((hL xs ys ((s + 1) * 4294967296 + i)) + 1)), (46, .agg [.i (hT xs ys ((s + 1) * 4294967296 + i)), .i (hL xs ys ((s + 1) * 4294967296 + i)), .u (hM xs ys ((s + 1) * 4294967296 + i))]), (45, .i i), (43, .f), (42, .i 0), (12, .i 0), (11, .p 3), (41, .i 0), (40, .agg [.i (hT xs ys ((s + 1) * 4294967296 + i)), .i (hL xs ys ((s + 1) * 4294967296 + i)), .u (hM xs ys ((s + 1) * 4294967296 + i))]), (36, .tup [.agg [.i (hT xs ys ((s + 1) * 4294967296 + i)), .i (hL xs ys ((s + 1) * 4294967296 + i)), .u (hM xs ys ((s + 1) * 4294967296 + i))], .i 0]), (39, .tup [.agg [.i (hT xs ys ((s + 1) * 4294967296 + i)), .i (hL xs ys ((s + 1) * 4294967296 + i)), .u (hM xs ys ((s + 1) * 4294967296 + i))], .i 0]), (38, .u ((s + 1) * 4294967296 + i)), (37, .agg (mm W xs ys)), (10, .u ((s + 1) * 4294967296 + i)), (35, .u ((s + 1) * 4294967296 + i)), (34, .i i), (33, .i s), (31, .bool (decide (lim ≤ i))), (30, .i lim), (29, .i i), (7, .i 0), (6, .nils), (3, .p 1), (1, .i s), (2, .i lim), (8, .own 2)], [(3, .cells [.i (hT xs ys ((s + 1) * 4294967296 + i)), .i (hL xs ys ((s + 1) * 4294967296 + i)), .u (hM xs ys ((s + 1) * 4294967296 + i))] 49), (2, .row 1 35 (m64 out)), (1, .cells (mm W xs ys) 25), (0, .cells (mm W xs ys) 25)], 4⟩ [(decide (lim < (i + (((ldw xs ys ((s + 1) * 4294967296 + i) / 4294967296) % 16777216) + 1)))) = (decide (lim < (i + (((ldw xs ys ((s + 1) * 4294967296 + i) / 4294967296) % 16777216) + 1))))] ⟨rfl, trivial⟩ ?_
     refine xw_cond (b := (decide (lim < (i + (((ldw xs ys ((s + 1) * 4294967296 + i) / 4294967296) % 16777216) + 1))))) (by kernel_rfl) (fun h13 => ?_) (fun h13 => ?_)
     ·
      replace h13 : lim < (i + (((ldw xs ys ((s + 1) * 4294967296 + i) / 4294967296) % 16777216) + 1)) := of_decide_eq_true h13
      refine rg [] 2 ⟨[(7, .i 10), (6, .nils), (51, .bool (decide (lim < (i + ((hL xs ys ((s + 1) * 4294967296 + i)) + 1))))), (50, .i lim), (49, .i (i + ((hL xs ys ((s + 1) * 4294967296 + i)) + 1))), (9, .i (i + ((hL xs ys ((s + 1) * 4294967296 + i)) + 1))), (48, .i (i + ((hL xs ys ((s + 1) * 4294967296 + i)) + 1))), (47, .i ((hL xs ys ((s + 1) * 4294967296 + i)) + 1)), (46, .agg [.i (hT xs ys ((s + 1) * 4294967296 + i)), .i (hL xs ys ((s + 1) * 4294967296 + i)), .u (hM xs ys ((s + 1) * 4294967296 + i))]), (45, .i i), (43, .f), (42, .i 0), (12, .i 0), (11, .p 3), (41, .i 0), (40, .agg [.i (hT xs ys ((s + 1) * 4294967296 + i)), .i (hL xs ys ((s + 1) * 4294967296 + i)), .u (hM xs ys ((s + 1) * 4294967296 + i))]), (36, .tup [.agg [.i (hT xs ys ((s + 1) * 4294967296 + i)), .i (hL xs ys ((s + 1) * 4294967296 + i)), .u (hM xs ys ((s + 1) * 4294967296 + i))], .i 0]), (39, .tup [.agg [.i (hT xs ys ((s + 1) * 4294967296 + i)), .i (hL xs ys ((s + 1) * 4294967296 + i)), .u (hM xs ys ((s + 1) * 4294967296 + i))], .i 0]), (38, .u ((s + 1) * 4294967296 + i)), (37, .agg (mm W xs ys)), (10, .u ((s + 1) * 4294967296 + i)), (35, .u ((s + 1) * 4294967296 + i)), (34, .i i), (33, .i s), (31, .bool (decide (lim ≤ i))), (30, .i lim), (29, .i i), (3, .p 1), (1, .i s), (2, .i lim), (8, .own 2)], [(3, .cells [.i (hT xs ys ((s + 1) * 4294967296 + i)), .i (hL xs ys ((s + 1) * 4294967296 + i)), .u (hM xs ys ((s + 1) * 4294967296 + i))] 49), (2, .row 1 35 (m64 out)), (1, .cells (mm W xs ys) 25), (0, .cells (mm W xs ys) 25)], 4⟩ [] trivial ?_
      refine xw_ret ?_
      refine an_ret ?_
      refine j1_ret ?_
      refine ⟨.tup [.nils, .i 10], by kernel_rfl, ?_⟩
      show XOi _ _ _ _ _ _ _ ⟨[(14, .tup [.nils, .int .i64 10]), (13, .int .i64 lim), (12, .int .i64 s), (11, .agg (mm W xs ys)), (7, .int .i64 0), (6, .nils), (3, .loc 0 0)], [(3, .cells [.int .i64 (ldw xs ys ((s + 1) * 4294967296 + i) / 72057594037927936), .int .i64 ((ldw xs ys ((s + 1) * 4294967296 + i) / 4294967296) % 16777216), .int .u64 (ldw xs ys ((s + 1) * 4294967296 + i) % 4294967296)] 49), (2, .row 1 35 (m64 out)), (1, .cells (mm W xs ys) 25), (0, .cells (mm W xs ys) 25)], 4⟩
      refine rk [] 5 4 ⟨[(9, .i 10), (8, .nils), (7, .i 0), (6, .nils), (3, .p 0)], [(0, .cells (mm W xs ys) 25)], 4⟩ [] trivial ?_
      refine en ?_
      refine an ?_
      refine xw_seq ?_
      refine reg ?_
      refine rk [] 2 0 ⟨[(18, .fn 22 [] [.p 0]), (17, .nils), (9, .i 10), (7, .i 0), (6, .nils)], [(0, .cells (mm W xs ys) 25)], 4⟩ [] trivial ?_
      refine callx (f := 21) (args := [.nils, .fn 22 [] [.p 0]]) (d := (some 19)) (by kernel_rfl) (xcall_of TT_ok Try.func21 rfl (by decide) (Nat.le_of_ble_eq_true (by kernel_rfl)) ?_)
      refine rg [] 1 ⟨[(4, .nils), (0, .nils), (1, .fn 22 [] [.p 0])], [(0, .cells (mm W xs ys) 25)], 4⟩ [] trivial ?_
      refine xw_seq ?_
      refine reg ?_
      refine rk [] 2 0 ⟨[(9, .fn 22 [] [.p 0]), (8, .nils), (4, .nils), (0, .nils), (1, .fn 22 [] [.p 0])], [(0, .cells (mm W xs ys) 25)], 4⟩ [] trivial ?_
      refine callx (f := 38) (args := [.nils, .fn 22 [] [.p 0]]) (d := (some 10)) (by kernel_rfl) (xcall_of TT_ok Try.func38 rfl (by decide) (Nat.le_of_ble_eq_true (by kernel_rfl)) ?_)
      refine rg [] 1 ⟨[(4, .i 0), (0, .nils), (1, .fn 22 [] [.p 0])], [(0, .cells (mm W xs ys) 25)], 4⟩ [] trivial ?_
      refine xw_seq ?_
      refine rg [(1, .i 0)] 3 ⟨[(8, .i 0), (7, .i 0), (4, .i 0), (0, .nils), (1, .fn 22 [] [.p 0])], [(0, .cells (mm W xs ys) 25)], 4⟩ [(0 : Int) = 0] ⟨rfl, trivial⟩ ?_
      refine xw_block ?_
      refine xw_unroll 1 ?_
      refine ul_step ?_
      refine rg [(0, .f)] 1 ⟨[(9, .f), (8, .i 0), (7, .i 0), (4, .i 0), (0, .nils), (1, .fn 22 [] [.p 0])], [(0, .cells (mm W xs ys) 25)], 4⟩ [(decide (0 < 0)) = false] ⟨decide_eq_false (by omega), trivial⟩ ?_
      refine xw_seq ?_
      refine cf ?_
      refine xw_exit ?_
      refine an_exit ?_
      refine agu_exit ?_
      refine ib_same ?_
      refine an ?_
      refine rg [] 1 ⟨[(4, .i (-1))], [(0, .cells (mm W xs ys) 25)], 4⟩ [] trivial ?_
      refine xw_ret ?_
      refine ⟨.i (-1), by kernel_rfl, ?_⟩
      show XOi _ _ _ _ _ _ _ ⟨[(10, .int .i64 (-1)), (9, .fn 22 [] [.loc 0 0]), (8, .nils), (4, .nils), (0, .nils), (1, .fn 22 [] [.loc 0 0])], [(0, .cells (mm W xs ys) 25)], 4⟩
      refine rk [] 1 3 ⟨[(5, .i (-1)), (4, .nils), (0, .nils), (1, .fn 22 [] [.p 0])], [(0, .cells (mm W xs ys) 25)], 4⟩ [] trivial ?_
      refine en ?_
      refine an ?_
      refine xw_seq ?_
      refine rg [(1, .t)] 2 ⟨[(12, .t), (5, .i (-1)), (4, .nils), (0, .nils), (1, .fn 22 [] [.p 0])], [(0, .cells (mm W xs ys) 25)], 4⟩ [((-1) == (-1)) = true] ⟨beq_iff_eq.2 (by omega), trivial⟩ ?_
      refine ct ?_
      refine rg [] 2 ⟨[(4, .nils), (5, .i (-1)), (0, .nils), (1, .fn 22 [] [.p 0])], [(0, .cells (mm W xs ys) 25)], 4⟩ [] trivial ?_
      refine xw_ret ?_
      refine an_ret ?_
      refine ⟨.nils, by kernel_rfl, ?_⟩
      show XOi _ _ _ _ _ _ _ ⟨[(19, .nils), (18, .fn 22 [] [.loc 0 0]), (17, .nils), (9, .int .i64 10), (7, .int .i64 0), (6, .nils)], [(0, .cells (mm W xs ys) 25)], 4⟩
      refine rk [] 3 3 ⟨[(7, .i 10), (6, .nils)], [], 4⟩ [] trivial ?_
      refine en ?_
      refine an ?_
      refine xw_ret ?_
      exact br (.tup [.nils, .i 10]) (.tup [.nils, .i (wE W xs ys s lim)]) (wkd [(10 : Int) = (wE W xs ys s lim)] (by kernel_rfl) ⟨(by first | rfl | omega | assumption | exact wE_end ‹_› (by omega) | exact wE_err ‹_› (by omega) (by omega) | exact wE_errn ‹_› (by omega) (by omega) | exact wE_big ‹_› (by omega) (by omega) (by omega) | exact wE_bign ‹_› (by omega) (by omega) (by omega) | exact wE_next ‹_› (by omega) (by omega) (by omega) (by omega)), trivial⟩) (Or.inr <| Or.inr <| ⟨(by omega), (by first | rfl | omega | assumption | exact wE_end ‹_› (by omega) | exact wE_err ‹_› (by omega) (by omega) | exact wE_errn ‹_› (by omega) (by omega) | exact wE_big ‹_› (by omega) (by omega) (by omega) | exact wE_bign ‹_› (by omega) (by omega) (by omega) | exact wE_next ‹_› (by omega) (by omega) (by omega) (by omega)), rfl⟩)
     ·
      replace h13 : ¬ (lim < (i + (((ldw xs ys ((s + 1) * 4294967296 + i) / 4294967296) % 16777216) + 1))) := of_decide_eq_false h13
      refine xw_skip ?_
      refine an ?_
      refine xw_seq ?_
      refine reg ?_
      refine rk [(2, .t)] 4 0 ⟨[(55, .own 4), (54, .sl false 1 [.u ((s + 1) * 4294967296 + i)]), (53, .u ((s + 1) * 4294967296 + i)), (52, .own 2), (51, .bool (decide (lim < (i + ((hL xs ys ((s + 1) * 4294967296 + i)) + 1))))), (50, .i lim), (49, .i (i + ((hL xs ys ((s + 1) * 4294967296 + i)) + 1))), (9, .i (i + ((hL xs ys ((s + 1) * 4294967296 + i)) + 1))), (48, .i (i + ((hL xs ys ((s + 1) * 4294967296 + i)) + 1))), (47, .i ((hL xs ys ((s + 1) * 4294967296 + i)) + 1)), (46, .agg [.i (hT xs ys ((s + 1) * 4294967296 + i)), .i (hL xs ys ((s + 1) * 4294967296 + i)), .u (hM xs ys ((s + 1) * 4294967296 + i))]), (45, .i i), (43, .f), (42, .i 0), (12, .i 0), (11, .p 3), (41, .i 0), (40, .agg [.i (hT xs ys ((s + 1) * 4294967296 + i)), .i (hL xs ys ((s + 1) * 4294967296 + i)), .u (hM xs ys ((s + 1) * 4294967296 + i))]), (36, .tup [.agg [.i (hT xs ys ((s + 1) * 4294967296 + i)), .i (hL xs ys ((s + 1) * 4294967296 + i)), .u (hM xs ys ((s + 1) * 4294967296 + i))], .i 0]), (39, .tup [.agg [.i (hT xs ys ((s + 1) * 4294967296 + i)), .i (hL xs ys ((s + 1) * 4294967296 + i)), .u (hM xs ys ((s + 1) * 4294967296 + i))], .i 0]), (38, .u ((s + 1) * 4294967296 + i)), (37, .agg (mm W xs ys)), (10, .u ((s + 1) * 4294967296 + i)), (35, .u ((s + 1) * 4294967296 + i)), (34, .i i), (33, .i s), (31, .bool (decide (lim ≤ i))), (30, .i lim), (29, .i i), (7, .i 0), (6, .nils), (3, .p 1), (1, .i s), (2, .i lim), (8, .own 2)], [(4, .row 1 35 (((m64 out)) ++ ([.u ((s + 1) * 4294967296 + i)]))), (3, .cells [.i (hT xs ys ((s + 1) * 4294967296 + i)), .i (hL xs ys ((s + 1) * 4294967296 + i)), .u (hM xs ys ((s + 1) * 4294967296 + i))] 49), (1, .cells (mm W xs ys) 25), (0, .cells (mm W xs ys) 25)], 5⟩ [(∀ y ∈ ([.u ((s + 1) * 4294967296 + i)] : List SV), ElemOk y) ∧ (false = true → 1 ≤ ([.u ((s + 1) * 4294967296 + i)] : List SV).length ∧ ∀ x ∈ ((m64 out) : List SV), ElemOk x) ∧ (((m64 out) : List SV).length + ([.u ((s + 1) * 4294967296 + i)] : List SV).length) * 8 ≤ 140737488355328 ∧ ((m64 out) : List SV).length + ([.u ((s + 1) * 4294967296 + i)] : List SV).length ≤ 4611686018427387904] ⟨⟨(by intro y hy; simp at hy; first | (subst hy; rfl) | (rcases hy with rfl | rfl <;> rfl)), (fun h => by cases h), by first | omega | (simp only [len_st]; omega) | (simp; done) | (simp; omega) | (simp [len_st, len_stx, len_sty, len_zx, len_zy]; omega) | (have hc := len_clr; first | (simp; refine Int.le_trans ?_ (Int.ofNat_le.2 (hc _ _ _)); omega) | (refine Int.lt_of_lt_of_le ?_ (Int.ofNat_le.2 (hc _ _ _)); omega)), by first | omega | (simp only [len_st]; omega) | (simp; done) | (simp; omega) | (simp [len_st, len_stx, len_sty, len_zx, len_zy]; omega) | (have hc := len_clr; first | (simp; refine Int.le_trans ?_ (Int.ofNat_le.2 (hc _ _ _)); omega) | (refine Int.lt_of_lt_of_le ?_ (Int.ofNat_le.2 (hc _ _ _)); omega))⟩, trivial⟩ ?_
      refine setr 4 (z := 1) (E := 35) (L := (((m64 out)) ++ ([.u ((s + 1) * 4294967296 + i)]))) (L' := (m64 (out ++ [((s + 1) * 4294967296 + i)]))) (by kernel_rfl) app_one ?_
      refine rk [] 1 4 ⟨[(8, .own 4), (55, .own 4), (54, .sl false 1 [.u ((s + 1) * 4294967296 + i)]), (53, .u ((s + 1) * 4294967296 + i)), (52, .own 2), (51, .bool (decide (lim < (i + ((hL xs ys ((s + 1) * 4294967296 + i)) + 1))))), (50, .i lim), (49, .i (i + ((hL xs ys ((s + 1) * 4294967296 + i)) + 1))), (9, .i (i + ((hL xs ys ((s + 1) * 4294967296 + i)) + 1))), (48, .i (i + ((hL xs ys ((s + 1) * 4294967296 + i)) + 1))), (47, .i ((hL xs ys ((s + 1) * 4294967296 + i)) + 1)), (46, .agg [.i (hT xs ys ((s + 1) * 4294967296 + i)), .i (hL xs ys ((s + 1) * 4294967296 + i)), .u (hM xs ys ((s + 1) * 4294967296 + i))]), (45, .i i), (43, .f), (42, .i 0), (12, .i 0), (11, .p 3), (41, .i 0), (40, .agg [.i (hT xs ys ((s + 1) * 4294967296 + i)), .i (hL xs ys ((s + 1) * 4294967296 + i)), .u (hM xs ys ((s + 1) * 4294967296 + i))]), (36, .tup [.agg [.i (hT xs ys ((s + 1) * 4294967296 + i)), .i (hL xs ys ((s + 1) * 4294967296 + i)), .u (hM xs ys ((s + 1) * 4294967296 + i))], .i 0]), (39, .tup [.agg [.i (hT xs ys ((s + 1) * 4294967296 + i)), .i (hL xs ys ((s + 1) * 4294967296 + i)), .u (hM xs ys ((s + 1) * 4294967296 + i))], .i 0]), (38, .u ((s + 1) * 4294967296 + i)), (37, .agg (mm W xs ys)), (10, .u ((s + 1) * 4294967296 + i)), (35, .u ((s + 1) * 4294967296 + i)), (34, .i i), (33, .i s), (31, .bool (decide (lim ≤ i))), (30, .i lim), (29, .i i), (7, .i 0), (6, .nils), (3, .p 1), (1, .i s), (2, .i lim)], [(4, .row 1 35 (m64 (out ++ [((s + 1) * 4294967296 + i)]))), (3, .cells [.i (hT xs ys ((s + 1) * 4294967296 + i)), .i (hL xs ys ((s + 1) * 4294967296 + i)), .u (hM xs ys ((s + 1) * 4294967296 + i))] 49), (1, .cells (mm W xs ys) 25), (0, .cells (mm W xs ys) 25)], 5⟩ [] trivial ?_
      refine en ?_
      refine an ?_
      refine xw_goto ?_
      exact j1_goto ⟨((i + (((ldw xs ys ((s + 1) * 4294967296 + i) / 4294967296) % 16777216) + 1)), (out ++ [ ((s + 1) * 4294967296 + i) ])), ⟨(by omega), (by omega), (by omega), (show (wE W xs ys s lim) = (wf W xs ys s lim (i + (((ldw xs ys ((s + 1) * 4294967296 + i) / 4294967296) % 16777216) + 1))).1 by exact wE_next ‹_› (by omega) (by omega) (by omega) (by omega)), (show (wA W xs ys s lim) = (out ++ [ ((s + 1) * 4294967296 + i) ]) ++ (wf W xs ys s lim (i + (((ldw xs ys ((s + 1) * 4294967296 + i) / 4294967296) % 16777216) + 1))).2 by first | exact wA_next ‹_› (by omega) (by omega) (by omega) (by omega) | exact wA_next (out := []) ‹_› (by omega) (by omega) (by omega) (by omega)), (show U64s (out ++ [ ((s + 1) * 4294967296 + i) ]) by first | exact U64s.append ‹_› (U64s.cons (by omega) U64s.nil) | exact U64s.cons (by omega) U64s.nil), (show ((out ++ [ ((s + 1) * 4294967296 + i) ]).length : Int) ≤ (i + (((ldw xs ys ((s + 1) * 4294967296 + i) / 4294967296) % 16777216) + 1)) by simp; omega)⟩⟩ (le_of [(2, 4)] [(0 : Int) = 0, (s : Int) = s, (lim : Int) = lim, ((i + (((ldw xs ys ((s + 1) * 4294967296 + i) / 4294967296) % 16777216) + 1)) : Int) = (i + (((ldw xs ys ((s + 1) * 4294967296 + i) / 4294967296) % 16777216) + 1)), ((m64 (out ++ [((s + 1) * 4294967296 + i)])) : List SV) = (m64 (out ++ [ ((s + 1) * 4294967296 + i) ])), (W : Int) = W, (false = true → false = true), ((m64 xs) : List SV) = (m64 xs), (false = true → false = true), ((m64 ys) : List SV) = (m64 ys), (W : Int) = W, (false = true → false = true), ((m64 xs) : List SV) = (m64 xs), (false = true → false = true), ((m64 ys) : List SV) = (m64 ys)] (by kernel_rfl) ⟨rfl, rfl, rfl, rfl, (by first | rfl | omega | assumption | exact congrArg _ (wA_end ‹_› (by omega)) | exact wA_next ‹_› (by omega) (by omega) (by omega) (by omega) | exact U64s.append ‹_› (U64s.cons (by omega) U64s.nil) | exact wE_next ‹_› (by omega) (by omega) (by omega) (by omega) | (simp; omega)), rfl, id, rfl, id, rfl, rfl, id, rfl, id, rfl, trivial⟩) (by show (lim - (i + (((ldw xs ys ((s + 1) * 4294967296 + i) / 4294967296) % 16777216) + 1))).toNat < (lim - i).toNat; omega)
    ·
     refine pc (hwords_2 (ldw xs ys ((s + 1) * 4294967296 + i) / 72057594037927936) ((ldw xs ys ((s + 1) * 4294967296 + i) / 4294967296) % 16777216) (ldw xs ys ((s + 1) * 4294967296 + i) % 4294967296) (by omega) (by omega) (by omega) (by omega) ‹_›) ?_
     refine rk [(3, .i (i + (((ldw xs ys ((s + 1) * 4294967296 + i) / 4294967296) % 16777216) + 2)))] 2 3 ⟨[(9, .i (i + ((hL xs ys ((s + 1) * 4294967296 + i)) + 2))), (48, .i (i + ((hL xs ys ((s + 1) * 4294967296 + i)) + 2))), (47, .i ((hL xs ys ((s + 1) * 4294967296 + i)) + 2)), (46, .agg [.i (hT xs ys ((s + 1) * 4294967296 + i)), .i (hL xs ys ((s + 1) * 4294967296 + i)), .u (hM xs ys ((s + 1) * 4294967296 + i))]), (45, .i i), (43, .f), (42, .i 0), (12, .i 0), (11, .p 3), (41, .i 0), (40, .agg [.i (hT xs ys ((s + 1) * 4294967296 + i)), .i (hL xs ys ((s + 1) * 4294967296 + i)), .u (hM xs ys ((s + 1) * 4294967296 + i))]), (36, .tup [.agg [.i (hT xs ys ((s + 1) * 4294967296 + i)), .i (hL xs ys ((s + 1) * 4294967296 + i)), .u (hM xs ys ((s + 1) * 4294967296 + i))], .i 0]), (39, .tup [.agg [.i (hT xs ys ((s + 1) * 4294967296 + i)), .i (hL xs ys ((s + 1) * 4294967296 + i)), .u (hM xs ys ((s + 1) * 4294967296 + i))], .i 0]), (38, .u ((s + 1) * 4294967296 + i)), (37, .agg (mm W xs ys)), (10, .u ((s + 1) * 4294967296 + i)), (35, .u ((s + 1) * 4294967296 + i)), (34, .i i), (33, .i s), (31, .bool (decide (lim ≤ i))), (30, .i lim), (29, .i i), (7, .i 0), (6, .nils), (3, .p 1), (1, .i s), (2, .i lim), (8, .own 2)], [(3, .cells [.i (hT xs ys ((s + 1) * 4294967296 + i)), .i (hL xs ys ((s + 1) * 4294967296 + i)), .u (hM xs ys ((s + 1) * 4294967296 + i))] 49), (2, .row 1 35 (m64 out)), (1, .cells (mm W xs ys) 25), (0, .cells (mm W xs ys) 25)], 4⟩ [IntKind.i64.wrap (i + (((ldw xs ys ((s + 1) * 4294967296 + i) / 4294967296) % 16777216) + 2)) = (i + (((ldw xs ys ((s + 1) * 4294967296 + i) / 4294967296) % 16777216) + 2))] ⟨i64_eq (by omega) (by omega), trivial⟩ ?_
     refine en ?_
     refine an ?_
     refine xw_seq ?_
     refine rg [(2, .bool (decide (lim < (i + (((ldw xs ys ((s + 1) * 4294967296 + i) / 4294967296) % 16777216) + 2)))))] 3 ⟨[(51, .bool (decide (lim < (i + ((hL xs ys ((s + 1) * 4294967296 + i)) + 2))))), (50, .i lim), (49, .i (i + ((hL xs ys ((s + 1) * 4294967296 + i)) + 2))), (9, .i (i + ((hL xs ys ((s + 1) * 4294967296 + i)) + 2))), (48, .i (i + ((hL xs ys ((s + 1) * 4294967296 + i)) + 2))), (47, .i ((hL xs ys ((s + 1) * 4294967296 + i)) + 2)), (46, .agg [.i (hT xs ys ((s + 1) * 4294967296 + i)), .i (hL xs ys ((s + 1) * 4294967296 + i)), .u (hM xs ys ((s + 1) * 4294967296 + i))]), (45, .i i), (43, .f), (42, .i 0), (12, .i 0), (11, .p 3), (41, .i 0), (40, .agg [.i (hT xs ys ((s + 1) * 4294967296 + i)), .i (hL xs ys ((s + 1) * 4294967296 + i)), .u (hM xs ys ((s + 1) * 4294967296 + i))]), (36, .tup [.agg [.i (hT xs ys ((s + 1) * 4294967296 + i)), .i (hL xs ys ((s + 1) * 4294967296 + i)), .u (hM xs ys ((s + 1) * 4294967296 + i))], .i 0]), (39, .tup [.agg [.i (hT xs ys ((s + 1) * 4294967296 + i)), .i (hL xs ys ((s + 1) * 4294967296 + i)), .u (hM xs ys ((s + 1) * 4294967296 + i))], .i 0]), (38, .u ((s + 1) * 4294967296 + i)), (37, .agg (mm W xs ys)), (10, .u ((s + 1) * 4294967296 + i)), (35, .u ((s + 1) * 4294967296 + i)), (34, .i i), (33, .i s), (31, .bool (decide (lim ≤ i))), (30, .i lim), (29, .i i), (7, .i 0), (6, .nils), (3, .p 1), (1, .i s), (2, .i lim), (8, .own 2)], [(3, .cells [.i (hT xs ys ((s + 1) * 4294967296 + i)), .i (hL xs ys ((s + 1) * 4294967296 + i)), .u (hM xs ys ((s + 1) * 4294967296 + i))] 49), (2, .row 1 35 (m64 out)), (1, .cells (mm W xs ys) 25), (0, .cells (mm W xs ys) 25)], 4⟩ [(decide (lim < (i + (((ldw xs ys ((s + 1) * 4294967296 + i) / 4294967296) % 16777216) + 2)))) = (decide (lim < (i + (((ldw xs ys ((s + 1) * 4294967296 + i) / 4294967296) % 16777216) + 2))))] ⟨rfl, trivial⟩ ?_
     refine xw_cond (b := (decide (lim < (i + (((ldw xs ys ((s + 1) * 4294967296 + i) / 4294967296) % 16777216) + 2))))) (by kernel_rfl) (fun h13 => ?_) (fun h13 => ?_)
     ·
      replace h13 : lim < (i + (((ldw xs ys ((s + 1) * 4294967296 + i) / 4294967296) % 16777216) + 2)) := of_decide_eq_true h13
      refine rg [] 2 ⟨[(7, .i 10), (6, .nils), (51, .bool (decide (lim < (i + ((hL xs ys ((s + 1) * 4294967296 + i)) + 2))))), (50, .i lim), (49, .i (i + ((hL xs ys ((s + 1) * 4294967296 + i)) + 2))), (9, .i (i + ((hL xs ys ((s + 1) * 4294967296 + i)) + 2))), (48, .i (i + ((hL xs ys ((s + 1) * 4294967296 + i)) + 2))), (47, .i ((hL xs ys ((s + 1) * 4294967296 + i)) + 2)), (46, .agg [.i (hT xs ys ((s + 1) * 4294967296 + i)), .i (hL xs ys ((s + 1) * 4294967296 + i)), .u (hM xs ys ((s + 1) * 4294967296 + i))]), (45, .i i), (43, .f), (42, .i 0), (12, .i 0), (11, .p 3), (41, .i 0), (40, .agg [.i (hT xs ys ((s + 1) * 4294967296 + i)), .i (hL xs ys ((s + 1) * 4294967296 + i)), .u (hM xs ys ((s + 1) * 4294967296 + i))]), (36, .tup [.agg [.i (hT xs ys ((s + 1) * 4294967296 + i)), .i (hL xs ys ((s + 1) * 4294967296 + i)), .u (hM xs ys ((s + 1) * 4294967296 + i))], .i 0]), (39, .tup [.agg [.i (hT xs ys ((s + 1) * 4294967296 + i)), .i (hL xs ys ((s + 1) * 4294967296 + i)), .u (hM xs ys ((s + 1) * 4294967296 + i))], .i 0]), (38, .u ((s + 1) * 4294967296 + i)), (37, .agg (mm W xs ys)), (10, .u ((s + 1) * 4294967296 + i)), (35, .u ((s + 1) * 4294967296 + i)), (34, .i i), (33, .i s), (31, .bool (decide (lim ≤ i))), (30, .i lim), (29, .i i), (3, .p 1), (1, .i s), (2, .i lim), (8, .own 2)], [(3, .cells [.i (hT xs ys ((s + 1) * 4294967296 + i)), .i (hL xs ys ((s + 1) * 4294967296 + i)), .u (hM xs ys ((s + 1) * 4294967296 + i))] 49), (2, .row 1 35 (m64 out)), (1, .cells (mm W xs ys) 25), (0, .cells (mm W xs ys) 25)], 4⟩ [] trivial ?_
      refine xw_ret ?_
      refine an_ret ?_
      refine j1_ret ?_
      refine ⟨.tup [.nils, .i 10], by kernel_rfl, ?_⟩
      show XOi _ _ _ _ _ _ _ ⟨[(14, .tup [.nils, .int .i64 10]), (13, .int .i64 lim), (12, .int .i64 s), (11, .agg (mm W xs ys)), (7, .int .i64 0), (6, .nils), (3, .loc 0 0)], [(3, .cells [.int .i64 (ldw xs ys ((s + 1) * 4294967296 + i) / 72057594037927936), .int .i64 ((ldw xs ys ((s + 1) * 4294967296 + i) / 4294967296) % 16777216), .int .u64 (ldw xs ys ((s + 1) * 4294967296 + i) % 4294967296)] 49), (2, .row 1 35 (m64 out)), (1, .cells (mm W xs ys) 25), (0, .cells (mm W xs ys) 25)], 4⟩
      refine rk [] 5 4 ⟨[(9, .i 10), (8, .nils), (7, .i 0), (6, .nils), (3, .p 0)], [(0, .cells (mm W xs ys) 25)], 4⟩ [] trivial ?_
      refine en ?_
      refine an ?_
      refine xw_seq ?_
      refine reg ?_
      refine rk [] 2 0 ⟨[(18, .fn 22 [] [.p 0]), (17, .nils), (9, .i 10), (7, .i 0), (6, .nils)], [(0, .cells (mm W xs ys) 25)], 4⟩ [] trivial ?_
      refine callx (f := 21) (args := [.nils, .fn 22 [] [.p 0]]) (d := (some 19)) (by kernel_rfl) (xcall_of TT_ok Try.func21 rfl (by decide) (Nat.le_of_ble_eq_true (by kernel_rfl)) ?_)
      refine rg [] 1 ⟨[(4, .nils), (0, .nils), (1, .fn 22 [] [.p 0])], [(0, .cells (mm W xs ys) 25)], 4⟩ [] trivial ?_
      refine xw_seq ?_
      refine reg ?_
      refine rk [] 2 0 ⟨[(9, .fn 22 [] [.p 0]), (8, .nils), (4, .nils), (0, .nils), (1, .fn 22 [] [.p 0])], [(0, .cells (mm W xs ys) 25)], 4⟩ [] trivial ?_
      refine callx (f := 38) (args := [.nils, .fn 22 [] [.p 0]]) (d := (some 10)) (by kernel_rfl) (xcall_of TT_ok Try.func38 rfl (by decide) (Nat.le_of_ble_eq_true (by kernel_rfl)) ?_)
      refine rg [] 1 ⟨[(4, .i 0), (0, .nils), (1, .fn 22 [] [.p 0])], [(0, .cells (mm W xs ys) 25)], 4⟩ [] trivial ?_
      refine xw_seq ?_
      refine rg [(1, .i 0)] 3 ⟨[(8, .i 0), (7, .i 0), (4, .i 0), (0, .nils), (1, .fn 22 [] [.p 0])], [(0, .cells (mm W xs ys) 25)], 4⟩ [(0 : Int) = 0] ⟨rfl, trivial⟩ ?_
      refine xw_block ?_
      refine xw_unroll 1 ?_
      refine ul_step ?_
      refine rg [(0, .f)] 1 ⟨[(9, .f), (8, .i 0), (7, .i 0), (4, .i 0), (0, .nils), (1, .fn 22 [] [.p 0])], [(0, .cells (mm W xs ys) 25)], 4⟩ [(decide (0 < 0)) = false] ⟨decide_eq_false (by omega), trivial⟩ ?_
      refine xw_seq ?_
      refine cf ?_
      refine xw_exit ?_
      refine an_exit ?_
      refine agu_exit ?_
      refine ib_same ?_
      refine an ?_
      refine rg [] 1 ⟨[(4, .i (-1))], [(0, .cells (mm W xs ys) 25)], 4⟩ [] trivial ?_
      refine xw_ret ?_
      refine ⟨.i (-1), by kernel_rfl, ?_⟩
      show XOi _ _ _ _ _ _ _ ⟨[(10, .int .i64 (-1)), (9, .fn 22 [] [.loc 0 0]), (8, .nils), (4, .nils), (0, .nils), (1, .fn 22 [] [.loc 0 0])], [(0, .cells (mm W xs ys) 25)], 4⟩
      refine rk [] 1 3 ⟨[(5, .i (-1)), (4, .nils), (0, .nils), (1, .fn 22 [] [.p 0])], [(0, .cells (mm W xs ys) 25)], 4⟩ [] trivial ?_
      refine en ?_
      refine an ?_
      refine xw_seq ?_
      refine rg [(1, .t)] 2 ⟨[(12, .t), (5, .i (-1)), (4, .nils), (0, .nils), (1, .fn 22 [] [.p 0])], [(0, .cells (mm W xs ys) 25)], 4⟩ [((-1) == (-1)) = true] ⟨beq_iff_eq.2 (by omega), trivial⟩ ?_
      refine ct ?_
      refine rg [] 2 ⟨[(4, .nils), (5, .i (-1)), (0, .nils), (1, .fn 22 [] [.p 0])], [(0, .cells (mm W xs ys) 25)], 4⟩ [] trivial ?_
      refine xw_ret ?_
      refine an_ret ?_
      refine ⟨.nils, by kernel_rfl, ?_⟩
      show XOi _ _ _ _ _ _ _ ⟨[(19, .nils), (18, .fn 22 [] [.loc 0 0]), (17, .nils), (9, .int .i64 10), (7, .int .i64 0), (6, .nils)], [(0, .cells (mm W xs ys) 25)], 4⟩
      refine rk [] 3 3 ⟨[(7, .i 10), (6, .nils)], [], 4⟩ [] trivial ?_
      refine en ?_
      refine an ?_
      refine xw_ret ?_
      exact br (.tup [.nils, .i 10]) (.tup [.nils, .i (wE W xs ys s lim)]) (wkd [(10 : Int) = (wE W xs ys s lim)] (by kernel_rfl) ⟨(by first | rfl | omega | assumption | exact wE_end ‹_› (by omega) | exact wE_err ‹_› (by omega) (by omega) | exact wE_errn ‹_› (by omega) (by omega) | exact wE_big ‹_› (by omega) (by omega) (by omega) | exact wE_bign ‹_› (by omega) (by omega) (by omega) | exact wE_next ‹_› (by omega) (by omega) (by omega) (by omega)), trivial⟩) (Or.inr <| Or.inr <| ⟨(by omega), (by first | rfl | omega | assumption | exact wE_end ‹_› (by omega) | exact wE_err ‹_› (by omega) (by omega) | exact wE_errn ‹_› (by omega) (by omega) | exact wE_big ‹_› (by omega) (by omega) (by omega) | exact wE_bign ‹_› (by omega) (by omega) (by omega) | exact wE_next ‹_› (by omega) (by omega) (by omega) (by omega)), rfl⟩)
     ·
      replace h13 : ¬ (lim < (i + (((ldw xs ys ((s + 1) * 4294967296 + i) / 4294967296) % 16777216) + 2))) := of_decide_eq_false h13
      refine xw_skip ?_
      refine an ?_
      refine xw_seq ?_
      refine reg ?_
      refine rk [(2, .t)] 4 0 ⟨[(55, .own 4), (54, .sl false 1 [.u ((s + 1) * 4294967296 + i)]), (53, .u ((s + 1) * 4294967296 + i)), (52, .own 2), (51, .bool (decide (lim < (i + ((hL xs ys ((s + 1) * 4294967296 + i)) + 2))))), (50, .i lim), (49, .i (i + ((hL xs ys ((s + 1) * 4294967296 + i)) + 2))), (9, .i (i + ((hL xs ys ((s + 1) * 4294967296 + i)) + 2))), (48, .i (i + ((hL xs ys ((s + 1) * 4294967296 + i)) + 2))), (47, .i ((hL xs ys ((s + 1) * 4294967296 + i)) + 2)), (46, .agg [.i (hT xs ys ((s + 1) * 4294967296 + i)), .i (hL xs ys ((s + 1) * 4294967296 + i)), .u (hM xs ys ((s + 1) * 4294967296 + i))]), (45, .i i), (43, .f), (42, .i 0), (12, .i 0), (11, .p 3), (41, .i 0), (40, .agg [.i (hT xs ys ((s + 1) * 4294967296 + i)), .i (hL xs ys ((s + 1) * 4294967296 + i)), .u (hM xs ys ((s + 1) * 4294967296 + i))]), (36, .tup [.agg [.i (hT xs ys ((s + 1) * 4294967296 + i)), .i (hL xs ys ((s + 1) * 4294967296 + i)), .u (hM xs ys ((s + 1) * 4294967296 + i))], .i 0]), (39, .tup [.agg [.i (hT xs ys ((s + 1) * 4294967296 + i)), .i (hL xs ys ((s + 1) * 4294967296 + i)), .u (hM xs ys ((s + 1) * 4294967296 + i))], .i 0]), (38, .u ((s + 1) * 4294967296 + i)), (37, .agg (mm W xs ys)), (10, .u ((s + 1) * 4294967296 + i)), (35, .u ((s + 1) * 4294967296 + i)), (34, .i i), (33, .i s), (31, .bool (decide (lim ≤ i))), (30, .i lim), (29, .i i), (7, .i 0), (6, .nils), (3, .p 1), (1, .i s), (2, .i lim), (8, .own 2)], [(4, .row 1 35 (((m64 out)) ++ ([.u ((s + 1) * 4294967296 + i)]))), (3, .cells [.i (hT xs ys ((s + 1) * 4294967296 + i)), .i (hL xs ys ((s + 1) * 4294967296 + i)), .u (hM xs ys ((s + 1) * 4294967296 + i))] 49), (1, .cells (mm W xs ys) 25), (0, .cells (mm W xs ys) 25)], 5⟩ [(∀ y ∈ ([.u ((s + 1) * 4294967296 + i)] : List SV), ElemOk y) ∧ (false = true → 1 ≤ ([.u ((s + 1) * 4294967296 + i)] : List SV).length ∧ ∀ x ∈ ((m64 out) : List SV), ElemOk x) ∧ (((m64 out) : List SV).length + ([.u ((s + 1) * 4294967296 + i)] : List SV).length) * 8 ≤ 140737488355328 ∧ ((m64 out) : List SV).length + ([.u ((s + 1) * 4294967296 + i)] : List SV).length ≤ 4611686018427387904] ⟨⟨(by intro y hy; simp at hy; first | (subst hy; rfl) | (rcases hy with rfl | rfl <;> rfl)), (fun h => by cases h), by first | omega | (simp only [len_st]; omega) | (simp; done) | (simp; omega) | (simp [len_st, len_stx, len_sty, len_zx, len_zy]; omega) | (have hc := len_clr; first | (simp; refine Int.le_trans ?_ (Int.ofNat_le.2 (hc _ _ _)); omega) | (refine Int.lt_of_lt_of_le ?_ (Int.ofNat_le.2 (hc _ _ _)); omega)), by first | omega | (simp only [len_st]; omega) | (simp; done) | (simp; omega) | (simp [len_st, len_stx, len_sty, len_zx, len_zy]; omega) | (have hc := len_clr; first | (simp; refine Int.le_trans ?_ (Int.ofNat_le.2 (hc _ _ _)); omega) | (refine Int.lt_of_lt_of_le ?_ (Int.ofNat_le.2 (hc _ _ _)); omega))⟩, trivial⟩ ?_
      refine setr 4 (z := 1) (E := 35) (L := (((m64 out)) ++ ([.u ((s + 1) * 4294967296 + i)]))) (L' := (m64 (out ++ [((s + 1) * 4294967296 + i)]))) (by kernel_rfl) app_one ?_
      refine rk [] 1 4 ⟨[(8, .own 4), (55, .own 4), (54, .sl false 1 [.u ((s + 1) * 4294967296 + i)]), (53, .u ((s + 1) * 4294967296 + i)), (52, .own 2), (51, .bool (decide (lim < (i + ((hL xs ys ((s + 1) * 4294967296 + i)) + 2))))), (50, .i lim), (49, .i (i + ((hL xs ys ((s + 1) * 4294967296 + i)) + 2))), (9, .i (i + ((hL xs ys ((s + 1) * 4294967296 + i)) + 2))), (48, .i (i + ((hL xs ys ((s + 1) * 4294967296 + i)) + 2))), (47, .i ((hL xs ys ((s + 1) * 4294967296 + i)) + 2)), (46, .agg [.i (hT xs ys ((s + 1) * 4294967296 + i)), .i (hL xs ys ((s + 1) * 4294967296 + i)), .u (hM xs ys ((s + 1) * 4294967296 + i))]), (45, .i i), (43, .f), (42, .i 0), (12, .i 0), (11, .p 3), (41, .i 0), (40, .agg [.i (hT xs ys ((s + 1) * 4294967296 + i)), .i (hL xs ys ((s + 1) * 4294967296 + i)), .u (hM xs ys ((s + 1) * 4294967296 + i))]), (36, .tup [.agg [.i (hT xs ys ((s + 1) * 4294967296 + i)), .i (hL xs ys ((s + 1) * 4294967296 + i)), .u (hM xs ys ((s + 1) * 4294967296 + i))], .i 0]), (39, .tup [.agg [.i (hT xs ys ((s + 1) * 4294967296 + i)), .i (hL xs ys ((s + 1) * 4294967296 + i)), .u (hM xs ys ((s + 1) * 4294967296 + i))], .i 0]), (38, .u ((s + 1) * 4294967296 + i)), (37, .agg (mm W xs ys)), (10, .u ((s + 1) * 4294967296 + i)), (35, .u ((s + 1) * 4294967296 + i)), (34, .i i), (33, .i s), (31, .bool (decide (lim ≤ i))), (30, .i lim), (29, .i i), (7, .i 0), (6, .nils), (3, .p 1), (1, .i s), (2, .i lim)], [(4, .row 1 35 (m64 (out ++ [((s + 1) * 4294967296 + i)]))), (3, .cells [.i (hT xs ys ((s + 1) * 4294967296 + i)), .i (hL xs ys ((s + 1) * 4294967296 + i)), .u (hM xs ys ((s + 1) * 4294967296 + i))] 49), (1, .cells (mm W xs ys) 25), (0, .cells (mm W xs ys) 25)], 5⟩ [] trivial ?_
      refine en ?_
      refine an ?_
      refine xw_goto ?_
      exact j1_goto ⟨((i + (((ldw xs ys ((s + 1) * 4294967296 + i) / 4294967296) % 16777216) + 2)), (out ++ [ ((s + 1) * 4294967296 + i) ])), ⟨(by omega), (by omega), (by omega), (show (wE W xs ys s lim) = (wf W xs ys s lim (i + (((ldw xs ys ((s + 1) * 4294967296 + i) / 4294967296) % 16777216) + 2))).1 by exact wE_next ‹_› (by omega) (by omega) (by omega) (by omega)), (show (wA W xs ys s lim) = (out ++ [ ((s + 1) * 4294967296 + i) ]) ++ (wf W xs ys s lim (i + (((ldw xs ys ((s + 1) * 4294967296 + i) / 4294967296) % 16777216) + 2))).2 by first | exact wA_next ‹_› (by omega) (by omega) (by omega) (by omega) | exact wA_next (out := []) ‹_› (by omega) (by omega) (by omega) (by omega)), (show U64s (out ++ [ ((s + 1) * 4294967296 + i) ]) by first | exact U64s.append ‹_› (U64s.cons (by omega) U64s.nil) | exact U64s.cons (by omega) U64s.nil), (show ((out ++ [ ((s + 1) * 4294967296 + i) ]).length : Int) ≤ (i + (((ldw xs ys ((s + 1) * 4294967296 + i) / 4294967296) % 16777216) + 2)) by simp; omega)⟩⟩ (le_of [(2, 4)] [(0 : Int) = 0, (s : Int) = s, (lim : Int) = lim, ((i + (((ldw xs ys ((s + 1) * 4294967296 + i) / 4294967296) % 16777216) + 2)) : Int) = (i + (((ldw xs ys ((s + 1) * 4294967296 + i) / 4294967296) % 16777216) + 2)), ((m64 (out ++ [((s + 1) * 4294967296 + i)])) : List SV) = (m64 (out ++ [ ((s + 1) * 4294967296 + i) ])), (W : Int) = W, (false = true → false = true), ((m64 xs) : List SV) = (m64 xs), (false = true → false = true), ((m64 ys) : List SV) = (m64 ys), (W : Int) = W, (false = true → false = true), ((m64 xs) : List SV) = (m64 xs), (false = true → false = true), ((m64 ys) : List SV) = (m64 ys)] (by kernel_rfl) ⟨rfl, rfl, rfl, rfl, (by first | rfl | omega | assumption | exact congrArg _ (wA_end ‹_› (by omega)) | exact wA_next ‹_› (by omega) (by omega) (by omega) (by omega) | exact U64s.append ‹_› (U64s.cons (by omega) U64s.nil) | exact wE_next ‹_› (by omega) (by omega) (by omega) (by omega) | (simp; omega)), rfl, id, rfl, id, rfl, rfl, id, rfl, id, rfl, trivial⟩) (by show (lim - (i + (((ldw xs ys ((s + 1) * 4294967296 + i) / 4294967296) % 16777216) + 2))).toNat < (lim - i).toNat; omega)
   ·
    refine pc (oat_2 W xs ys ((s + 1) * 4294967296 + i) ‹_› ‹_› ‹_› ‹_› ‹_› (by omega) ‹_›) ?_
    have h9 : (oErr W xs ys ((s + 1) * 4294967296 + i)) = 2 ∨ (oErr W xs ys ((s + 1) * 4294967296 + i)) = 10 := oErr_no W xs ys ((s + 1) * 4294967296 + i) (by omega)
    refine rk [] 6 3 ⟨[(12, .i (oErr W xs ys ((s + 1) * 4294967296 + i))), (11, .p 3), (41, .i (oErr W xs ys ((s + 1) * 4294967296 + i))), (40, .agg [.i 0, .i 0, .u 0]), (36, .tup [.agg [.i 0, .i 0, .u 0], .i (oErr W xs ys ((s + 1) * 4294967296 + i))]), (39, .tup [.agg [.i 0, .i 0, .u 0], .i (oErr W xs ys ((s + 1) * 4294967296 + i))]), (38, .u ((s + 1) * 4294967296 + i)), (37, .agg (mm W xs ys)), (10, .u ((s + 1) * 4294967296 + i)), (35, .u ((s + 1) * 4294967296 + i)), (34, .i i), (33, .i s), (31, .bool (decide (lim ≤ i))), (30, .i lim), (29, .i i), (7, .i 0), (6, .nils), (3, .p 1), (1, .i s), (2, .i lim), (8, .own 2), (9, .i i)], [(3, .cells [.i 0, .i 0, .u 0] 49), (2, .row 1 35 (m64 out)), (1, .cells (mm W xs ys) 25), (0, .cells (mm W xs ys) 25)], 4⟩ [True] ⟨trivial, trivial⟩ ?_
    refine en ?_
    refine an ?_
    refine xw_seq ?_
    refine rg [(1, .t)] 2 ⟨[(43, .t), (42, .i (oErr W xs ys ((s + 1) * 4294967296 + i))), (12, .i (oErr W xs ys ((s + 1) * 4294967296 + i))), (11, .p 3), (41, .i (oErr W xs ys ((s + 1) * 4294967296 + i))), (40, .agg [.i 0, .i 0, .u 0]), (36, .tup [.agg [.i 0, .i 0, .u 0], .i (oErr W xs ys ((s + 1) * 4294967296 + i))]), (39, .tup [.agg [.i 0, .i 0, .u 0], .i (oErr W xs ys ((s + 1) * 4294967296 + i))]), (38, .u ((s + 1) * 4294967296 + i)), (37, .agg (mm W xs ys)), (10, .u ((s + 1) * 4294967296 + i)), (35, .u ((s + 1) * 4294967296 + i)), (34, .i i), (33, .i s), (31, .bool (decide (lim ≤ i))), (30, .i lim), (29, .i i), (7, .i 0), (6, .nils), (3, .p 1), (1, .i s), (2, .i lim), (8, .own 2), (9, .i i)], [(3, .cells [.i 0, .i 0, .u 0] 49), (2, .row 1 35 (m64 out)), (1, .cells (mm W xs ys) 25), (0, .cells (mm W xs ys) 25)], 4⟩ [((oErr W xs ys ((s + 1) * 4294967296 + i)) != 0) = true] ⟨bne_iff_ne.2 (by omega), trivial⟩ ?_
    refine ct ?_
    refine rg [] 3 ⟨[(7, .i (oErr W xs ys ((s + 1) * 4294967296 + i))), (6, .nils), (44, .i (oErr W xs ys ((s + 1) * 4294967296 + i))), (43, .t), (42, .i (oErr W xs ys ((s + 1) * 4294967296 + i))), (12, .i (oErr W xs ys ((s + 1) * 4294967296 + i))), (11, .p 3), (41, .i (oErr W xs ys ((s + 1) * 4294967296 + i))), (40, .agg [.i 0, .i 0, .u 0]), (36, .tup [.agg [.i 0, .i 0, .u 0], .i (oErr W xs ys ((s + 1) * 4294967296 + i))]), (39, .tup [.agg [.i 0, .i 0, .u 0], .i (oErr W xs ys ((s + 1) * 4294967296 + i))]), (38, .u ((s + 1) * 4294967296 + i)), (37, .agg (mm W xs ys)), (10, .u ((s + 1) * 4294967296 + i)), (35, .u ((s + 1) * 4294967296 + i)), (34, .i i), (33, .i s), (31, .bool (decide (lim ≤ i))), (30, .i lim), (29, .i i), (3, .p 1), (1, .i s), (2, .i lim), (8, .own 2), (9, .i i)], [(3, .cells [.i 0, .i 0, .u 0] 49), (2, .row 1 35 (m64 out)), (1, .cells (mm W xs ys) 25), (0, .cells (mm W xs ys) 25)], 4⟩ [] trivial ?_
    refine xw_ret ?_
    refine an_ret ?_
    refine j1_ret ?_
    refine ⟨.tup [.nils, .i (oErr W xs ys ((s + 1) * 4294967296 + i))], by kernel_rfl, ?_⟩
    show XOi _ _ _ _ _ _ _ ⟨[(14, .tup [.nils, .int .i64 (oErr W xs ys ((s + 1) * 4294967296 + i))]), (13, .int .i64 lim), (12, .int .i64 s), (11, .agg (mm W xs ys)), (7, .int .i64 0), (6, .nils), (3, .loc 0 0)], [(3, .cells [.int .i64 0, .int .i64 0, .int .u64 0] 49), (2, .row 1 35 (m64 out)), (1, .cells (mm W xs ys) 25), (0, .cells (mm W xs ys) 25)], 4⟩
    refine rk [] 5 4 ⟨[(9, .i (oErr W xs ys ((s + 1) * 4294967296 + i))), (8, .nils), (7, .i 0), (6, .nils), (3, .p 0)], [(0, .cells (mm W xs ys) 25)], 4⟩ [] trivial ?_
    refine en ?_
    refine an ?_
    refine xw_seq ?_
    refine reg ?_
    refine rk [] 2 0 ⟨[(18, .fn 22 [] [.p 0]), (17, .nils), (9, .i (oErr W xs ys ((s + 1) * 4294967296 + i))), (7, .i 0), (6, .nils)], [(0, .cells (mm W xs ys) 25)], 4⟩ [] trivial ?_
    refine callx (f := 21) (args := [.nils, .fn 22 [] [.p 0]]) (d := (some 19)) (by kernel_rfl) (xcall_of TT_ok Try.func21 rfl (by decide) (Nat.le_of_ble_eq_true (by kernel_rfl)) ?_)
    refine rg [] 1 ⟨[(4, .nils), (0, .nils), (1, .fn 22 [] [.p 0])], [(0, .cells (mm W xs ys) 25)], 4⟩ [] trivial ?_
    refine xw_seq ?_
    refine reg ?_
    refine rk [] 2 0 ⟨[(9, .fn 22 [] [.p 0]), (8, .nils), (4, .nils), (0, .nils), (1, .fn 22 [] [.p 0])], [(0, .cells (mm W xs ys) 25)], 4⟩ [] trivial ?_
    refine callx (f := 38) (args := [.nils, .fn 22 [] [.p 0]]) (d := (some 10)) (by kernel_rfl) (xcall_of TT_ok Try.func38 rfl (by decide) (Nat.le_of_ble_eq_true (by kernel_rfl)) ?_)
    refine rg [] 1 ⟨[(4, .i 0), (0, .nils), (1, .fn 22 [] [.p 0])], [(0, .cells (mm W xs ys) 25)], 4⟩ [] trivial ?_
    refine xw_seq ?_
    refine rg [(1, .i 0)] 3 ⟨[(8, .i 0), (7, .i 0), (4, .i 0), (0, .nils), (1, .fn 22 [] [.p 0])], [(0, .cells (mm W xs ys) 25)], 4⟩ [(0 : Int) = 0] ⟨rfl, trivial⟩ ?_
    refine xw_block ?_
    refine xw_unroll 1 ?_
    refine ul_step ?_
    refine rg [(0, .f)] 1 ⟨[(9, .f), (8, .i 0), (7, .i 0), (4, .i 0), (0, .nils), (1, .fn 22 [] [.p 0])], [(0, .cells (mm W xs ys) 25)], 4⟩ [(decide (0 < 0)) = false] ⟨decide_eq_false (by omega), trivial⟩ ?_
    refine xw_seq ?_
    refine cf ?_
    refine xw_exit ?_
    refine an_exit ?_
    refine agu_exit ?_
    refine ib_same ?_
    refine an ?_
    refine rg [] 1 ⟨[(4, .i (-1))], [(0, .cells (mm W xs ys) 25)], 4⟩ [] trivial ?_
    refine xw_ret ?_
    refine ⟨.i (-1), by kernel_rfl, ?_⟩
    show XOi _ _ _ _ _ _ _ ⟨[(10, .int .i64 (-1)), (9, .fn 22 [] [.loc 0 0]), (8, .nils), (4, .nils), (0, .nils), (1, .fn 22 [] [.loc 0 0])], [(0, .cells (mm W xs ys) 25)], 4⟩
    refine rk [] 1 3 ⟨[(5, .i (-1)), (4, .nils), (0, .nils), (1, .fn 22 [] [.p 0])], [(0, .cells (mm W xs ys) 25)], 4⟩ [] trivial ?_
    refine en ?_
    refine an ?_
    refine xw_seq ?_
    refine rg [(1, .t)] 2 ⟨[(12, .t), (5, .i (-1)), (4, .nils), (0, .nils), (1, .fn 22 [] [.p 0])], [(0, .cells (mm W xs ys) 25)], 4⟩ [((-1) == (-1)) = true] ⟨beq_iff_eq.2 (by omega), trivial⟩ ?_
    refine ct ?_
    refine rg [] 2 ⟨[(4, .nils), (5, .i (-1)), (0, .nils), (1, .fn 22 [] [.p 0])], [(0, .cells (mm W xs ys) 25)], 4⟩ [] trivial ?_
    refine xw_ret ?_
    refine an_ret ?_
    refine ⟨.nils, by kernel_rfl, ?_⟩
    show XOi _ _ _ _ _ _ _ ⟨[(19, .nils), (18, .fn 22 [] [.loc 0 0]), (17, .nils), (9, .int .i64 (oErr W xs ys ((s + 1) * 4294967296 + i))), (7, .int .i64 0), (6, .nils)], [(0, .cells (mm W xs ys) 25)], 4⟩
    refine rk [] 3 3 ⟨[(7, .i (oErr W xs ys ((s + 1) * 4294967296 + i))), (6, .nils)], [], 4⟩ [] trivial ?_
    refine en ?_
    refine an ?_
    refine xw_ret ?_
    exact br (.tup [.nils, .i (oErr W xs ys ((s + 1) * 4294967296 + i))]) (.tup [.nils, .i (wE W xs ys s lim)]) (wkd [((oErr W xs ys ((s + 1) * 4294967296 + i)) : Int) = (wE W xs ys s lim)] (by kernel_rfl) ⟨(by first | rfl | omega | assumption | exact wE_end ‹_› (by omega) | exact wE_err ‹_› (by omega) (by omega) | exact wE_errn ‹_› (by omega) (by omega) | exact wE_big ‹_› (by omega) (by omega) (by omega) | exact wE_bign ‹_› (by omega) (by omega) (by omega) | exact wE_next ‹_› (by omega) (by omega) (by omega) (by omega)), trivial⟩) (Or.inr <| Or.inr <| ⟨(by omega), (by first | rfl | omega | assumption | exact wE_end ‹_› (by omega) | exact wE_err ‹_› (by omega) (by omega) | exact wE_errn ‹_› (by omega) (by omega) | exact wE_big ‹_› (by omega) (by omega) (by omega) | exact wE_bign ‹_› (by omega) (by omega) (by omega) | exact wE_next ‹_› (by omega) (by omega) (by omega) (by omega)), rfl⟩)

theorem wobjects_2 (W : Int) (xs ys : List Int) (s lim : Int) (hp0 : 16 ≤ W ∧ W ≤ 4096) (hp1 : (xs.length : Int) = W) (hp2 : (ys.length : Int) = W) (hp3 : U64s xs) (hp4 : U64s ys) (hp5 : -9223372036854775808 ≤ s ∧ s ≤ 9223372036854775807) (hp6 : -9223372036854775808 ≤ lim ∧ lim ≤ 9223372036854775807) (hp7 : 0 ≤ s ∧ s ≤ 1 ∧ 0 ≤ lim ∧ lim ≤ W) (hp8 : (wE W xs ys s lim) = 0) : Pub Try.prog 10 [.agg (mm W xs ys), .i s, .i lim] (fun rv => rv = .tup [.sl false 1 (m64 (wO W xs ys s lim)), .i 0]) := by
  refine (wobjects W xs ys s lim hp0 hp1 hp2 hp3 hp4 hp5 hp6).mono ?_
  rintro _ (⟨g0, rfl⟩ | ⟨g0, g1, rfl⟩ | ⟨g0, g1, rfl⟩)
  all_goals first | rfl | (exfalso; first | omega | grind)

end Go.Proofs.Ytlapjlbmhaalbaa.X
