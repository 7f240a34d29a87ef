/- Contracts of Go functions: what each returns, for every input that its premises name; no memory of the caller is touched. Printed by a program. -/
import Derived.Test.YtlapjlbmhaalbaaXd2
import Derived.Test.YtlapjlbmhaalbaaXh1
import Derived.Test.YtlapjlbmhaalbaaXu4
import Derived.Test.YtlapjlbmhaalbaaXq5
namespace Go.Proofs.Ytlapjlbmhaalbaa.X
open Go Go.RowKit
set_option linter.unusedVariables false      -- a premise may serve only to tell which way is taken
set_option linter.unusedSimpArgs false
theorem rhptrs (t l m : Int) (hp0 : -9223372036854775808 ≤ t ∧ t ≤ 9223372036854775807) (hp1 : 0 ≤ l ∧ l ≤ 16777216) (hp2 : 0 ≤ m ∧ m ≤ 18446744073709551615) : Pub Try.prog 25 [.agg [.i t, .i l, .u m]] (fun rv => rv = .sl false 1 (List.map (SV.int .i64) (ptL l m (Int.toNat l)))) := by
 refine pub_of TT_ok Try.func25 rfl (by decide) (Nat.le_of_ble_eq_true (by kernel_rfl)) (by kernel_rfl) ?_
 refine rg [] 2 ⟨[(2, .nils), (1, .p 0)], [(0, .cells [.i t, .i l, .u m] 49)], 1⟩ [] trivial ?_
 refine rg [] 1 ⟨[(3, .nils), (2, .nils), (1, .p 0)], [(0, .cells [.i t, .i l, .u m] 49)], 1⟩ [] trivial ?_
 refine xw_seq ?_
 refine rg [] 1 ⟨[(4, .i 0), (3, .nils), (2, .nils), (1, .p 0)], [(0, .cells [.i t, .i l, .u m] 49)], 1⟩ [] trivial ?_
 refine xw_block ?_
 refine xw_nilrow 3 1 3 (by kernel_rfl) ?_
 refine xw_loop (α := {q : Int // (0 ≤ q) ∧ (q ≤ l)}) (fun p => ⟨[(3, .own 1), (4, .i p.1), (2, .nils), (1, .p 0)], [(1, .row 1 3 (List.map (SV.int .i64) (ptL l m (Int.toNat p.1)))), (0, .cells [.i t, .i l, .u m] 49)], 2⟩) (fun p => (l - p.1).toNat) ⟨0, ⟨(by omega), (by omega)⟩⟩ (le_of [] [(0 : Int) = 0, ((m64 []) : List SV) = (List.map (SV.int .i64) (ptL l m (Int.toNat 0))), (t : Int) = t, (l : Int) = l, (m : Int) = m] (by kernel_rfl) ⟨rfl, (by first | rfl | omega | exact congrArg _ (ptL_yes (by omega) ‹_› rfl) | exact congrArg _ (ptL_no (by omega) ‹_› rfl) | exact congrArg _ (ptL_0 _ _).symm), rfl, rfl, rfl, trivial⟩) ?_
 rintro ⟨i1, h0, h1⟩
 show XW _ _ _ _ _ _ ⟨[(3, .own 1), (4, .int .i64 i1), (2, .nils), (1, .loc 0 0)], [(1, .row 1 3 (List.map (SV.int .i64) (ptL l m (Int.toNat i1)))), (0, .cells [.int .i64 t, .int .i64 l, .int .u64 m] 49)], 2⟩
 have h2 : ((ptL l m (Int.toNat i1)).length : Int) ≤ i1 := ptL_le (by omega)
 refine xw_seq ?_
 refine rg [(3, .bool (decide (i1 < l)))] 4 ⟨[(9, .bool (decide (i1 < l))), (3, .own 1), (4, .i i1), (2, .nils), (1, .p 0)], [(1, .row 1 3 (List.map (SV.int .i64) (ptL l m (Int.toNat i1)))), (0, .cells [.i t, .i l, .u m] 49)], 2⟩ [True, (decide (i1 < l)) = (decide (i1 < l))] ⟨trivial, rfl, trivial⟩ ?_
 refine xw_cond (b := (decide (i1 < l))) (by kernel_rfl) (fun h3 => ?_) (fun h3 => ?_)
 ·
  replace h3 : i1 < l := of_decide_eq_true h3
  refine xw_skip ?_
  refine an ?_
  refine xw_seq ?_
  refine xw_block ?_
  refine xw_seq ?_
  refine reg ?_
  refine rk [] 2 0 ⟨[(13, .i i1), (12, .agg [.i t, .i l, .u m]), (3, .own 1), (4, .i i1), (2, .nils), (1, .p 0)], [(1, .row 1 3 (List.map (SV.int .i64) (ptL l m (Int.toNat i1)))), (0, .cells [.i t, .i l, .u m] 49)], 2⟩ [True] ⟨trivial, trivial⟩ ?_
  refine pc (rhpointer t l m i1 ‹_› (by omega) ‹_›) ?_
  refine rk [] 1 3 ⟨[(5, .bool (isPtr l m i1)), (3, .own 1), (4, .i i1), (2, .nils), (1, .p 0)], [(1, .row 1 3 (List.map (SV.int .i64) (ptL l m (Int.toNat i1)))), (0, .cells [.i t, .i l, .u m] 49)], 2⟩ [] trivial ?_
  refine en ?_
  refine an ?_
  refine rg [] 1 ⟨[(15, .bool (isPtr l m i1)), (3, .own 1), (4, .i i1), (2, .nils), (1, .p 0)], [(1, .row 1 3 (List.map (SV.int .i64) (ptL l m (Int.toNat i1)))), (0, .cells [.i t, .i l, .u m] 49)], 2⟩ [] trivial ?_
  refine xw_cond (b := (isPtr l m i1)) (by kernel_rfl) (fun h4 => ?_) (fun h4 => ?_)
  ·
   replace h4 : isPtr l m i1 = true := h4
   refine reg ?_
   refine rk [(2, .t)] 4 0 ⟨[(19, .own 2), (3, .own 1), (4, .i i1), (2, .nils), (1, .p 0)], [(2, .row 1 3 (((List.map (SV.int .i64) (ptL l m (Int.toNat i1)))) ++ ([.i i1]))), (0, .cells [.i t, .i l, .u m] 49)], 3⟩ [(∀ y ∈ ([.i i1] : List SV), ElemOk y) ∧ (false = true → 1 ≤ ([.i i1] : List SV).length ∧ ∀ x ∈ ((List.map (SV.int .i64) (ptL l m (Int.toNat i1))) : List SV), ElemOk x) ∧ (((List.map (SV.int .i64) (ptL l m (Int.toNat i1))) : List SV).length + ([.i i1] : List SV).length) * 8 ≤ 140737488355328 ∧ ((List.map (SV.int .i64) (ptL l m (Int.toNat i1))) : List SV).length + ([.i i1] : List SV).length ≤ 4611686018427387904] ⟨⟨(by intro y hy; simp at hy; first | (subst hy; rfl) | (rcases hy with rfl | rfl <;> rfl)), (fun h => by cases h), by first | omega | (simp only [len_st]; omega) | (simp; done) | (simp; omega) | (simp [len_st, len_stx, len_sty, len_zx, len_zy]; omega), by first | omega | (simp only [len_st]; omega) | (simp; done) | (simp; omega) | (simp [len_st, len_stx, len_sty, len_zx, len_zy]; omega)⟩, trivial⟩ ?_
   refine setr 2 (z := 1) (E := 3) (L := (((List.map (SV.int .i64) (ptL l m (Int.toNat i1)))) ++ ([.i i1]))) (L' := (List.map (SV.int .i64) ((ptL l m (Int.toNat i1)) ++ [i1]))) (by kernel_rfl) app_one ?_
   refine rk [] 1 4 ⟨[(3, .own 2), (4, .i i1), (2, .nils), (1, .p 0)], [(2, .row 1 3 (List.map (SV.int .i64) ((ptL l m (Int.toNat i1)) ++ [i1]))), (0, .cells [.i t, .i l, .u m] 49)], 3⟩ [] trivial ?_
   refine en ?_
   refine ib ?_
   refine an ?_
   refine re [(1, .i (i1 + 1))] 3 ⟨[(4, .i (i1 + 1)), (3, .own 2), (2, .nils), (1, .p 0)], [(2, .row 1 3 (List.map (SV.int .i64) ((ptL l m (Int.toNat i1)) ++ [i1]))), (0, .cells [.i t, .i l, .u m] 49)], 3⟩ [IntKind.i64.wrap (i1 + 1) = (i1 + 1)] ⟨i64_eq (by omega) (by omega), trivial⟩ ?_
   exact ag ⟨(i1 + 1), ⟨(by omega), (by omega)⟩⟩ (le_of [(1, 2)] [((i1 + 1) : Int) = (i1 + 1), ((List.map (SV.int .i64) ((ptL l m (Int.toNat i1)) ++ [i1])) : List SV) = (List.map (SV.int .i64) (ptL l m (Int.toNat (i1 + 1)))), (t : Int) = t, (l : Int) = l, (m : Int) = m] (by kernel_rfl) ⟨rfl, (by first | rfl | omega | exact congrArg _ (ptL_yes (by omega) ‹_› rfl) | exact congrArg _ (ptL_no (by omega) ‹_› rfl) | exact congrArg _ (ptL_0 _ _).symm), rfl, rfl, rfl, trivial⟩) (by show (l - (i1 + 1)).toNat < (l - i1).toNat; omega)
  ·
   replace h4 : isPtr l m i1 = false := h4
   refine xw_skip ?_
   refine ib ?_
   refine an ?_
   refine re [(1, .i (i1 + 1))] 3 ⟨[(4, .i (i1 + 1)), (3, .own 1), (2, .nils), (1, .p 0)], [(1, .row 1 3 (List.map (SV.int .i64) (ptL l m (Int.toNat i1)))), (0, .cells [.i t, .i l, .u m] 49)], 2⟩ [IntKind.i64.wrap (i1 + 1) = (i1 + 1)] ⟨i64_eq (by omega) (by omega), trivial⟩ ?_
   exact ag ⟨(i1 + 1), ⟨(by omega), (by omega)⟩⟩ (le_of [] [((i1 + 1) : Int) = (i1 + 1), ((List.map (SV.int .i64) (ptL l m (Int.toNat i1))) : List SV) = (List.map (SV.int .i64) (ptL l m (Int.toNat (i1 + 1)))), (t : Int) = t, (l : Int) = l, (m : Int) = m] (by kernel_rfl) ⟨rfl, (by first | rfl | omega | exact congrArg _ (ptL_yes (by omega) ‹_› rfl) | exact congrArg _ (ptL_no (by omega) ‹_› rfl) | exact congrArg _ (ptL_0 _ _).symm), rfl, rfl, rfl, trivial⟩) (by show (l - (i1 + 1)).toNat < (l - i1).toNat; omega)
 ·
  replace h3 : ¬ (i1 < l) := of_decide_eq_false h3
  refine xw_exit ?_
  refine an_exit ?_
  refine ag_exit ?_
  refine ib_same ?_
  refine an ?_
  refine rg [] 2 ⟨[(2, .own 1)], [(1, .row 1 3 (List.map (SV.int .i64) (ptL l m (Int.toNat i1))))], 2⟩ [] trivial ?_
  refine xw_ret ?_
  exact bk_ret (.own 1) (.sl false 1 (List.map (SV.int .i64) (ptL l m (Int.toNat i1)))) (.sl false 1 (List.map (SV.int .i64) (ptL l m (Int.toNat l)))) (by kernel_rfl) (by kernel_rfl) (wkd [(false = true → false = true), (List.map (SV.int .i64) (ptL l m (Int.toNat i1))) = (List.map (SV.int .i64) (ptL l m (Int.toNat l)))] (by kernel_rfl) ⟨id, (by first | rfl | exact congrArg _ (ptL_eq (by omega))), trivial⟩) rfl

theorem rhas (l : List Int) (a : Int) (hp0 : U64s l) (hp1 : 0 ≤ a ∧ a ≤ 18446744073709551615) (hp2 : (l.length : Int) ≤ 1000000) : Pub Try.prog 12 [.sl false 1 (m64 l), .u a] (fun rv => rv = .bool (hasB l a)) := by
 refine pub_of TT_ok Try.func12 rfl (by decide) (Nat.le_of_ble_eq_true (by kernel_rfl)) (by kernel_rfl) ?_
 refine rg [] 1 ⟨[(4, .f), (0, .sl false 1 (m64 l)), (1, .u a)], [], 0⟩ [] trivial ?_
 refine xw_seq ?_
 refine rg [] 1 ⟨[(5, .i 0), (4, .f), (0, .sl false 1 (m64 l)), (1, .u a)], [], 0⟩ [] trivial ?_
 refine xw_block ?_
 refine xw_loop (α := {q : Int // (0 ≤ q) ∧ (q ≤ (l.length : Int)) ∧ (hasB (l.take (Int.toNat q)) a = false)}) (fun p => ⟨[(5, .i p.1), (4, .f), (0, .sl false 1 (m64 l)), (1, .u a)], [], 0⟩) (fun p => ((l.length : Int) - p.1).toNat) ⟨0, ⟨(by omega), (by omega), (by first | exact hasB_0 _ | exact hasB_next (by omega) (by omega) ‹_› (by omega))⟩⟩ (le_of [] [(0 : Int) = 0, false = false, (false = true → false = true), ((m64 l) : List SV) = (m64 l), (a : Int) = a] (by kernel_rfl) ⟨rfl, rfl, id, rfl, rfl, trivial⟩) ?_
 rintro ⟨i1, h0, h1, h2⟩
 show XW _ _ _ _ _ _ ⟨[(5, .int .i64 i1), (4, .bool false), (0, .sl false 1 (m64 l)), (1, .int .u64 a)], [], 0⟩
 refine xw_seq ?_
 refine rg [(2, .i ((l).length : Int)), (3, .bool (decide (i1 < ((l).length : Int))))] 4 ⟨[(9, .bool (decide (i1 < ((l).length : Int)))), (5, .i i1), (4, .f), (0, .sl false 1 (m64 l)), (1, .u a)], [], 0⟩ [((((m64 l)).length : Nat) : Int) = ((l).length : Int), (decide (i1 < ((l).length : Int))) = (decide (i1 < ((l).length : Int)))] ⟨(by simp), rfl, trivial⟩ ?_
 refine xw_cond (b := (decide (i1 < ((l).length : Int)))) (by kernel_rfl) (fun h3 => ?_) (fun h3 => ?_)
 ·
  replace h3 : i1 < (l.length : Int) := of_decide_eq_true h3
  refine xw_skip ?_
  refine an ?_
  refine xw_seq ?_
  refine xw_block ?_
  refine xw_seq ?_
  refine reg ?_
  refine rk [(2, .u (ix l i1))] 3 0 ⟨[(14, .elt (.u (ix l i1))), (5, .i i1), (4, .f), (0, .sl false 1 (m64 l)), (1, .u a)], [], 0⟩ [(0 : Int) ≤ i1 ∧ i1 < ((((m64 l)).length : Nat) : Int) ∧ ((m64 l))[(i1 : Int).toNat]? = some (.u (ix l i1))] ⟨(ix_ok (by omega) (by first | omega | (simp only [len_st]; omega) | (simp; done) | (simp; omega) | (simp [len_st, len_stx, len_sty, len_zx, len_zy]; omega))), trivial⟩ ?_
  have h4 : 0 ≤ (ix l i1) ∧ (ix l i1) ≤ 18446744073709551615 := U64s.ix (by first | assumption | exact U64s.st (by assumption) _ (by omega)) _
  refine rk [(5, .bool ((ix l i1) == a))] 3 3 ⟨[(17, .bool ((ix l i1) == a)), (5, .i i1), (4, .f), (0, .sl false 1 (m64 l)), (1, .u a)], [], 0⟩ [True, ((ix l i1) == a) = ((ix l i1) == a)] ⟨trivial, rfl, trivial⟩ ?_
  refine en ?_
  refine an ?_
  refine xw_cond (b := ((ix l i1) == a)) (by kernel_rfl) (fun h5 => ?_) (fun h5 => ?_)
  ·
   replace h5 : (ix l i1) = a := eq_of_beq h5
   refine rg [] 1 ⟨[(4, .t), (5, .i i1), (0, .sl false 1 (m64 l)), (1, .u a)], [], 0⟩ [] trivial ?_
   refine xw_ret ?_
   refine ib_ret ?_
   refine an_ret ?_
   refine ag_ret ?_
   refine ib_ret ?_
   refine an_ret ?_
   exact br (.t) (.bool (hasB l a)) (wkd [true = (hasB l a)] (by kernel_rfl) ⟨(by first | rfl | exact (hasB_at (by omega) (by omega) (by omega)).symm | exact (hasB_end ‹_› (by omega)).symm), trivial⟩) rfl
  ·
   replace h5 : (ix l i1) ≠ a := ne_of_beq_false h5
   refine xw_skip ?_
   refine ib ?_
   refine an ?_
   refine re [(1, .i (i1 + 1))] 3 ⟨[(5, .i (i1 + 1)), (4, .f), (0, .sl false 1 (m64 l)), (1, .u a)], [], 0⟩ [IntKind.i64.wrap (i1 + 1) = (i1 + 1)] ⟨i64_eq (by omega) (by omega), trivial⟩ ?_
   exact ag ⟨(i1 + 1), ⟨(by omega), (by omega), (by first | exact hasB_0 _ | exact hasB_next (by omega) (by omega) ‹_› (by omega))⟩⟩ (le_of [] [((i1 + 1) : Int) = (i1 + 1), false = false, (false = true → false = true), ((m64 l) : List SV) = (m64 l), (a : Int) = a] (by kernel_rfl) ⟨rfl, rfl, id, rfl, rfl, trivial⟩) (by show ((l.length : Int) - (i1 + 1)).toNat < ((l.length : Int) - i1).toNat; omega)
 ·
  replace h3 : ¬ (i1 < (l.length : Int)) := of_decide_eq_false h3
  refine xw_exit ?_
  refine an_exit ?_
  refine ag_exit ?_
  refine ib_same ?_
  refine an ?_
  refine rg [] 1 ⟨[(4, .f)], [], 0⟩ [] trivial ?_
  refine xw_ret ?_
  exact br (.f) (.bool (hasB l a)) (wkd [false = (hasB l a)] (by kernel_rfl) ⟨(by first | rfl | exact (hasB_at (by omega) (by omega) (by omega)).symm | exact (hasB_end ‹_› (by omega)).symm), trivial⟩) rfl

theorem rreal (W : Int) (xs ys : List Int) (a : Int) (hp0 : 16 ≤ W ∧ W ≤ 4096) (hp1 : (xs.length : Int) = W) (hp2 : (ys.length : Int) = W) (hp3 : U64s xs) (hp4 : U64s ys) (hp5 : 0 ≤ a ∧ a ≤ 18446744073709551615) : Pub Try.prog 14 [.agg (mm W xs ys), .u a] (fun rv => rv = .bool (rlB W xs ys a)) := by
 refine pub_of TT_ok Try.func14 rfl (by decide) (Nat.le_of_ble_eq_true (by kernel_rfl)) (by kernel_rfl) ?_
 refine rg [] 2 ⟨[(4, .f), (2, .p 0), (1, .u a)], [(0, .cells (mm W xs ys) 25)], 1⟩ [] trivial ?_
 refine xw_seq ?_
 refine reg ?_
 refine rk [] 2 0 ⟨[(9, .u a), (8, .agg (mm W xs ys)), (4, .f)], [], 1⟩ [True] ⟨trivial, trivial⟩ ?_
 by_cases h0 : (oErr W xs ys a) = 0
 ·
  refine pc (roat_1 W xs ys a ‹_› ‹_› ‹_› ‹_› ‹_› ‹_› ‹_›) ?_
  obtain ⟨h1, h2, h3⟩ := oErr_ok W xs ys a ‹_›
  refine rk [] 6 3 ⟨[(6, .i 0), (5, .p 1), (4, .f)], [(1, .cells [.i (hT xs ys a), .i (hL xs ys a), .u (hM xs ys a)] 49)], 2⟩ [True] ⟨trivial, trivial⟩ ?_
  refine en ?_
  refine an ?_
  refine rg [(1, .t), (5, .bool ((ldw xs ys a / 72057594037927936) != 255))] 8 ⟨[(4, .bool ((hT xs ys a) != 255))], [], 2⟩ [(0 == 0) = true, True, ((ldw xs ys a / 72057594037927936) != 255) = ((ldw xs ys a / 72057594037927936) != 255), True] ⟨beq_iff_eq.2 (by omega), trivial, rfl, trivial, trivial⟩ ?_
  refine xw_ret ?_
  by_cases h4 : (ldw xs ys a / 72057594037927936) ≠ 255
  ·
   exact br (.bool ((ldw xs ys a / 72057594037927936) != 255)) (.bool (rlB W xs ys a)) (wkd [((ldw xs ys a / 72057594037927936) != 255) = (rlB W xs ys a)] (by kernel_rfl) ⟨(by symm; unfold rlB; first | (apply decide_eq_true; omega) | (apply decide_eq_false; omega) | (rw [Bool.eq_iff_iff]; simp; omega)), trivial⟩) rfl
  ·
   exact br (.bool ((ldw xs ys a / 72057594037927936) != 255)) (.bool (rlB W xs ys a)) (wkd [((ldw xs ys a / 72057594037927936) != 255) = (rlB W xs ys a)] (by kernel_rfl) ⟨(by symm; unfold rlB; first | (apply decide_eq_true; omega) | (apply decide_eq_false; omega) | (rw [Bool.eq_iff_iff]; simp; omega)), trivial⟩) rfl
 ·
  refine pc (roat_2 W xs ys a ‹_› ‹_› ‹_› ‹_› ‹_› ‹_› ‹_›) ?_
  have h1 : (oErr W xs ys a) = 2 ∨ (oErr W xs ys a) = 10 := oErr_no W xs ys a (by omega)
  refine rk [] 6 3 ⟨[(6, .i (oErr W xs ys a)), (5, .p 1), (4, .f)], [(1, .cells [.i 0, .i 0, .u 0] 49)], 2⟩ [True] ⟨trivial, trivial⟩ ?_
  refine en ?_
  refine an ?_
  refine rg [(1, .f)] 8 ⟨[(4, .f)], [], 2⟩ [((oErr W xs ys a) == 0) = false, True] ⟨beq_eq_false_iff_ne.2 (by omega), trivial, trivial⟩ ?_
  refine xw_ret ?_
  exact br (.f) (.bool (rlB W xs ys a)) (wkd [false = (rlB W xs ys a)] (by kernel_rfl) ⟨(by symm; unfold rlB; first | (apply decide_eq_true; omega) | (apply decide_eq_false; omega) | (rw [Bool.eq_iff_iff]; simp; omega)), trivial⟩) rfl

theorem rptrs (W : Int) (xs ys : List Int) (a : Int) (hp0 : 16 ≤ W ∧ W ≤ 4096) (hp1 : (xs.length : Int) = W) (hp2 : (ys.length : Int) = W) (hp3 : U64s xs) (hp4 : U64s ys) (hp5 : 0 ≤ a ∧ a ≤ 18446744073709551615) : Pub Try.prog 11 [.agg (mm W xs ys), .u a] (fun rv => rv = .sl false 1 (m64 (ptrs W xs ys a))) := by
 refine pub_of TT_ok Try.func11 rfl (by decide) (Nat.le_of_ble_eq_true (by kernel_rfl)) (by kernel_rfl) ?_
 refine rg [] 2 ⟨[(4, .nils), (2, .p 0), (1, .u a)], [(0, .cells (mm W xs ys) 25)], 1⟩ [] trivial ?_
 refine xw_seq ?_
 refine reg ?_
 refine rk [] 2 0 ⟨[(15, .u a), (14, .agg (mm W xs ys)), (4, .nils), (2, .p 0), (1, .u a)], [(0, .cells (mm W xs ys) 25)], 1⟩ [True] ⟨trivial, trivial⟩ ?_
 by_cases h0 : (oErr W xs ys a) = 0
 ·
  refine pc (roat_1 W xs ys a ‹_› ‹_› ‹_› ‹_› ‹_› ‹_› ‹_›) ?_
  obtain ⟨h1, h2, h3⟩ := oErr_ok W xs ys a ‹_›
  refine rk [] 6 3 ⟨[(5, .p 1), (4, .nils), (2, .p 0), (1, .u a)], [(1, .cells [.i (hT xs ys a), .i (hL xs ys a), .u (hM xs ys a)] 49), (0, .cells (mm W xs ys) 25)], 2⟩ [True] ⟨trivial, trivial⟩ ?_
  refine en ?_
  refine an ?_
  refine xw_seq ?_
  refine reg ?_
  refine rk [] 1 0 ⟨[(19, .agg [.i (hT xs ys a), .i (hL xs ys a), .u (hM xs ys a)]), (4, .nils), (2, .p 0), (1, .u a)], [(0, .cells (mm W xs ys) 25)], 2⟩ [True] ⟨trivial, trivial⟩ ?_
  refine pc (rhptrs (ldw xs ys a / 72057594037927936) ((ldw xs ys a / 4294967296) % 16777216) (ldw xs ys a % 4294967296) (by omega) (by omega) (by omega)) ?_
  have h4 : ((ptL ((ldw xs ys a / 4294967296) % 16777216) (ldw xs ys a % 4294967296) (Int.toNat ((ldw xs ys a / 4294967296) % 16777216))).length : Int) ≤ ((ldw xs ys a / 4294967296) % 16777216) := ptL_le (by omega)
  have h5 : I64s (ptL ((ldw xs ys a / 4294967296) % 16777216) (ldw xs ys a % 4294967296) (Int.toNat ((ldw xs ys a / 4294967296) % 16777216))) := ptL_i64 _ _ (by omega)
  refine rk [] 1 2 ⟨[(7, .sl false 1 (List.map (SV.int .i64) (ptL (hL xs ys a) (hM xs ys a) (Int.toNat (hL xs ys a))))), (4, .nils), (2, .p 0), (1, .u a)], [(0, .cells (mm W xs ys) 25)], 2⟩ [] trivial ?_
  refine en ?_
  refine an ?_
  refine rg [] 1 ⟨[(8, .nils), (7, .sl false 1 (List.map (SV.int .i64) (ptL (hL xs ys a) (hM xs ys a) (Int.toNat (hL xs ys a))))), (4, .nils), (2, .p 0), (1, .u a)], [(0, .cells (mm W xs ys) 25)], 2⟩ [] trivial ?_
  refine xw_seq ?_
  refine rg [] 1 ⟨[(9, .i 0), (8, .nils), (7, .sl false 1 (List.map (SV.int .i64) (ptL (hL xs ys a) (hM xs ys a) (Int.toNat (hL xs ys a))))), (4, .nils), (2, .p 0), (1, .u a)], [(0, .cells (mm W xs ys) 25)], 2⟩ [] trivial ?_
  refine xw_block ?_
  refine xw_nilrow 8 1 35 (by kernel_rfl) ?_
  refine xw_loop (α := {q : Int // (0 ≤ q) ∧ (q ≤ ((ptL ((ldw xs ys a / 4294967296) % 16777216) (ldw xs ys a % 4294967296) (Int.toNat ((ldw xs ys a / 4294967296) % 16777216))).length : Int))}) (fun p => ⟨[(8, .own 2), (9, .i p.1), (7, .sl false 1 (List.map (SV.int .i64) (ptL (hL xs ys a) (hM xs ys a) (Int.toNat (hL xs ys a))))), (4, .nils), (2, .p 0), (1, .u a)], [(2, .row 1 35 (m64 ((ptrs W xs ys a).take (Int.toNat p.1)))), (0, .cells (mm W xs ys) 25)], 3⟩) (fun p => (((ptL ((ldw xs ys a / 4294967296) % 16777216) (ldw xs ys a % 4294967296) (Int.toNat ((ldw xs ys a / 4294967296) % 16777216))).length : Int) - p.1).toNat) ⟨0, ⟨(by omega), (by omega)⟩⟩ (le_of [] [(0 : Int) = 0, (false = true → false = true), ((List.map (SV.int .i64) (ptL ((ldw xs ys a / 4294967296) % 16777216) (ldw xs ys a % 4294967296) (Int.toNat ((ldw xs ys a / 4294967296) % 16777216)))) : List SV) = (List.map (SV.int .i64) (ptL ((ldw xs ys a / 4294967296) % 16777216) (ldw xs ys a % 4294967296) (Int.toNat ((ldw xs ys a / 4294967296) % 16777216)))), (a : Int) = a, ((m64 []) : List SV) = (m64 ((ptrs W xs ys a).take (Int.toNat 0))), (W : Int) = W, (false = true → false = true), ((m64 xs) : List SV) = (m64 xs), (false = true → false = true), ((m64 ys) : List SV) = (m64 ys)] (by kernel_rfl) ⟨rfl, id, rfl, rfl, (by first | rfl | exact congrArg _ (ptrs_next (by omega) (by omega) (by omega)) | (simp; done)), rfl, id, rfl, id, rfl, trivial⟩) ?_
  rintro ⟨k1, h6, h7⟩
  show XW _ _ _ _ _ _ ⟨[(8, .own 2), (9, .int .i64 k1), (7, .sl false 1 (List.map (SV.int .i64) (ptL ((ldw xs ys a / 4294967296) % 16777216) (ldw xs ys a % 4294967296) (Int.toNat ((ldw xs ys a / 4294967296) % 16777216))))), (4, .nils), (2, .loc 0 0), (1, .int .u64 a)], [(2, .row 1 35 (m64 ((ptrs W xs ys a).take (Int.toNat k1)))), (0, .cells (mm W xs ys) 25)], 3⟩
  have h8 : k1 = ((ptL ((ldw xs ys a / 4294967296) % 16777216) (ldw xs ys a % 4294967296) (Int.toNat ((ldw xs ys a / 4294967296) % 16777216))).length : Int) ∨ (k1 < ((ptL ((ldw xs ys a / 4294967296) % 16777216) (ldw xs ys a % 4294967296) (Int.toNat ((ldw xs ys a / 4294967296) % 16777216))).length : Int) ∧ 0 ≤ (ix (ptL ((ldw xs ys a / 4294967296) % 16777216) (ldw xs ys a % 4294967296) (Int.toNat ((ldw xs ys a / 4294967296) % 16777216))) k1) ∧ (ix (ptL ((ldw xs ys a / 4294967296) % 16777216) (ldw xs ys a % 4294967296) (Int.toNat ((ldw xs ys a / 4294967296) % 16777216))) k1) < ((ldw xs ys a / 4294967296) % 16777216) ∧ (ldw xs ys a / 72057594037927936) ≠ 255) := ptl_ix (t := (ldw xs ys a / 72057594037927936)) (by omega) (by omega) (by omega)
  have h9 : (((ptrs W xs ys a).take (Int.toNat k1)).length : Int) ≤ 64 := ptrs_tk
  have h10 : U64s ((ptrs W xs ys a).take (Int.toNat k1)) := (ptrs_u64 ‹U64s xs› ‹U64s ys›).take _
  refine xw_seq ?_
  refine rg [(2, .i (((ptL ((ldw xs ys a / 4294967296) % 16777216) (ldw xs ys a % 4294967296) (Int.toNat ((ldw xs ys a / 4294967296) % 16777216)))).length : Int)), (3, .bool (decide (k1 < (((ptL ((ldw xs ys a / 4294967296) % 16777216) (ldw xs ys a % 4294967296) (Int.toNat ((ldw xs ys a / 4294967296) % 16777216)))).length : Int))))] 4 ⟨[(24, .bool (decide (k1 < (((ptL (hL xs ys a) (hM xs ys a) (Int.toNat (hL xs ys a)))).length : Int)))), (8, .own 2), (9, .i k1), (7, .sl false 1 (List.map (SV.int .i64) (ptL (hL xs ys a) (hM xs ys a) (Int.toNat (hL xs ys a))))), (4, .nils), (2, .p 0), (1, .u a)], [(2, .row 1 35 (m64 ((ptrs W xs ys a).take (Int.toNat k1)))), (0, .cells (mm W xs ys) 25)], 3⟩ [((((List.map (SV.int .i64) (ptL ((ldw xs ys a / 4294967296) % 16777216) (ldw xs ys a % 4294967296) (Int.toNat ((ldw xs ys a / 4294967296) % 16777216))))).length : Nat) : Int) = (((ptL ((ldw xs ys a / 4294967296) % 16777216) (ldw xs ys a % 4294967296) (Int.toNat ((ldw xs ys a / 4294967296) % 16777216)))).length : Int), (decide (k1 < (((ptL ((ldw xs ys a / 4294967296) % 16777216) (ldw xs ys a % 4294967296) (Int.toNat ((ldw xs ys a / 4294967296) % 16777216)))).length : Int))) = (decide (k1 < (((ptL ((ldw xs ys a / 4294967296) % 16777216) (ldw xs ys a % 4294967296) (Int.toNat ((ldw xs ys a / 4294967296) % 16777216)))).length : Int)))] ⟨(by simp), rfl, trivial⟩ ?_
  refine xw_cond (b := (decide (k1 < (((ptL ((ldw xs ys a / 4294967296) % 16777216) (ldw xs ys a % 4294967296) (Int.toNat ((ldw xs ys a / 4294967296) % 16777216)))).length : Int)))) (by kernel_rfl) (fun h11 => ?_) (fun h11 => ?_)
  ·
   replace h11 : k1 < ((ptL ((ldw xs ys a / 4294967296) % 16777216) (ldw xs ys a % 4294967296) (Int.toNat ((ldw xs ys a / 4294967296) % 16777216))).length : Int) := of_decide_eq_true h11
   refine xw_skip ?_
   refine an ?_
   refine xw_seq ?_
   refine xw_block ?_
   refine xw_seq ?_
   refine dregk hmix (by kernel_rfl) ?_
   refine qr [(4, .i (ix (ptL ((ldw xs ys a / 4294967296) % 16777216) (ldw xs ys a % 4294967296) (Int.toNat ((ldw xs ys a / 4294967296) % 16777216))) k1))] 5 0 [(32, .elt (.i (ix (ptL ((ldw xs ys a / 4294967296) % 16777216) (ldw xs ys a % 4294967296) (Int.toNat ((ldw xs ys a / 4294967296) % 16777216))) k1))), (31, .i k1), (30, .sl false 1 (List.map (SV.int .i64) (ptL ((ldw xs ys a / 4294967296) % 16777216) (ldw xs ys a % 4294967296) (Int.toNat ((ldw xs ys a / 4294967296) % 16777216))))), (29, .u a), (28, .agg (mm W xs ys)), (24, .bool (decide (k1 < (((ptL ((ldw xs ys a / 4294967296) % 16777216) (ldw xs ys a % 4294967296) (Int.toNat ((ldw xs ys a / 4294967296) % 16777216)))).length : Int)))), (8, .own 2), (9, .i k1), (7, .sl false 1 (List.map (SV.int .i64) (ptL ((ldw xs ys a / 4294967296) % 16777216) (ldw xs ys a % 4294967296) (Int.toNat ((ldw xs ys a / 4294967296) % 16777216))))), (4, .nils), (2, .p 0), (1, .u a)] [True, (0 : Int) ≤ k1 ∧ k1 < ((((List.map (SV.int .i64) (ptL ((ldw xs ys a / 4294967296) % 16777216) (ldw xs ys a % 4294967296) (Int.toNat ((ldw xs ys a / 4294967296) % 16777216))))).length : Nat) : Int) ∧ ((List.map (SV.int .i64) (ptL ((ldw xs ys a / 4294967296) % 16777216) (ldw xs ys a % 4294967296) (Int.toNat ((ldw xs ys a / 4294967296) % 16777216)))))[(k1 : Int).toNat]? = some (.i (ix (ptL ((ldw xs ys a / 4294967296) % 16777216) (ldw xs ys a % 4294967296) (Int.toNat ((ldw xs ys a / 4294967296) % 16777216))) k1))] ⟨trivial, (ix_ok (by omega) (by first | omega | (simp only [len_st]; omega) | (simp; done) | (simp; omega) | (simp [len_st, len_stx, len_sty, len_zx, len_zy]; omega))), trivial⟩ ?_
   have h12 : -9223372036854775808 ≤ (ix (ptL ((ldw xs ys a / 4294967296) % 16777216) (ldw xs ys a % 4294967296) (Int.toNat ((ldw xs ys a / 4294967296) % 16777216))) k1) ∧ (ix (ptL ((ldw xs ys a / 4294967296) % 16777216) (ldw xs ys a % 4294967296) (Int.toNat ((ldw xs ys a / 4294967296) % 16777216))) k1) ≤ 9223372036854775807 := I64s.ix (by first | assumption | exact U64s.st (by assumption) _ (by omega)) _
   refine qr [] 1 5 [(33, .i (ix (ptL ((ldw xs ys a / 4294967296) % 16777216) (ldw xs ys a % 4294967296) (Int.toNat ((ldw xs ys a / 4294967296) % 16777216))) k1)), (32, .elt (.i (ix (ptL ((ldw xs ys a / 4294967296) % 16777216) (ldw xs ys a % 4294967296) (Int.toNat ((ldw xs ys a / 4294967296) % 16777216))) k1))), (31, .i k1), (30, .sl false 1 (List.map (SV.int .i64) (ptL ((ldw xs ys a / 4294967296) % 16777216) (ldw xs ys a % 4294967296) (Int.toNat ((ldw xs ys a / 4294967296) % 16777216))))), (29, .u a), (28, .agg (mm W xs ys)), (24, .bool (decide (k1 < (((ptL ((ldw xs ys a / 4294967296) % 16777216) (ldw xs ys a % 4294967296) (Int.toNat ((ldw xs ys a / 4294967296) % 16777216)))).length : Int)))), (8, .own 2), (9, .i k1), (7, .sl false 1 (List.map (SV.int .i64) (ptL ((ldw xs ys a / 4294967296) % 16777216) (ldw xs ys a % 4294967296) (Int.toNat ((ldw xs ys a / 4294967296) % 16777216))))), (4, .nils), (2, .p 0), (1, .u a)] [True] ⟨trivial, trivial⟩ ?_
   refine qc (roget_1 W xs ys a (ix (ptL ((ldw xs ys a / 4294967296) % 16777216) (ldw xs ys a % 4294967296) (Int.toNat ((ldw xs ys a / 4294967296) % 16777216))) k1) ‹_› ‹_› ‹_› ‹_› ‹_› ‹_› ‹_› ‹_› (by omega) (by omega)) ?_
   have h13 : 0 ≤ (ldw xs ys (a + 2 + (ix (ptL ((ldw xs ys a / 4294967296) % 16777216) (ldw xs ys a % 4294967296) (Int.toNat ((ldw xs ys a / 4294967296) % 16777216))) k1))) ∧ (ldw xs ys (a + 2 + (ix (ptL ((ldw xs ys a / 4294967296) % 16777216) (ldw xs ys a % 4294967296) (Int.toNat ((ldw xs ys a / 4294967296) % 16777216))) k1))) ≤ 18446744073709551615 := ldw_ok xs ys (a + 2 + (ix (ptL ((ldw xs ys a / 4294967296) % 16777216) (ldw xs ys a % 4294967296) (Int.toNat ((ldw xs ys a / 4294967296) % 16777216))) k1)) ‹_› ‹_›
   have h14 : 1 ≤ (a + 2 + (ix (ptL ((ldw xs ys a / 4294967296) % 16777216) (ldw xs ys a % 4294967296) (Int.toNat ((ldw xs ys a / 4294967296) % 16777216))) k1)) / 4294967296 ∧ (a + 2 + (ix (ptL ((ldw xs ys a / 4294967296) % 16777216) (ldw xs ys a % 4294967296) (Int.toNat ((ldw xs ys a / 4294967296) % 16777216))) k1)) / 4294967296 ≤ 2 ∧ (a + 2 + (ix (ptL ((ldw xs ys a / 4294967296) % 16777216) (ldw xs ys a % 4294967296) (Int.toNat ((ldw xs ys a / 4294967296) % 16777216))) k1)) % 4294967296 < W := by omega
   refine qr [] 7 7 [(12, .i 0), (11, .bool (isPtr ((ldw xs ys a / 4294967296) % 16777216) (ldw xs ys a % 4294967296) (ix (ptL ((ldw xs ys a / 4294967296) % 16777216) (ldw xs ys a % 4294967296) (Int.toNat ((ldw xs ys a / 4294967296) % 16777216))) k1))), (10, .u (ldw xs ys (a + 2 + (ix (ptL ((ldw xs ys a / 4294967296) % 16777216) (ldw xs ys a % 4294967296) (Int.toNat ((ldw xs ys a / 4294967296) % 16777216))) k1)))), (37, .i 0), (36, .bool (isPtr ((ldw xs ys a / 4294967296) % 16777216) (ldw xs ys a % 4294967296) (ix (ptL ((ldw xs ys a / 4294967296) % 16777216) (ldw xs ys a % 4294967296) (Int.toNat ((ldw xs ys a / 4294967296) % 16777216))) k1))), (35, .u (ldw xs ys (a + 2 + (ix (ptL ((ldw xs ys a / 4294967296) % 16777216) (ldw xs ys a % 4294967296) (Int.toNat ((ldw xs ys a / 4294967296) % 16777216))) k1)))), (27, .tup [.u (ldw xs ys (a + 2 + (ix (ptL ((ldw xs ys a / 4294967296) % 16777216) (ldw xs ys a % 4294967296) (Int.toNat ((ldw xs ys a / 4294967296) % 16777216))) k1))), .bool (isPtr ((ldw xs ys a / 4294967296) % 16777216) (ldw xs ys a % 4294967296) (ix (ptL ((ldw xs ys a / 4294967296) % 16777216) (ldw xs ys a % 4294967296) (Int.toNat ((ldw xs ys a / 4294967296) % 16777216))) k1)), .i 0]), (34, .tup [.u (ldw xs ys (a + 2 + (ix (ptL ((ldw xs ys a / 4294967296) % 16777216) (ldw xs ys a % 4294967296) (Int.toNat ((ldw xs ys a / 4294967296) % 16777216))) k1))), .bool (isPtr ((ldw xs ys a / 4294967296) % 16777216) (ldw xs ys a % 4294967296) (ix (ptL ((ldw xs ys a / 4294967296) % 16777216) (ldw xs ys a % 4294967296) (Int.toNat ((ldw xs ys a / 4294967296) % 16777216))) k1)), .i 0]), (33, .i (ix (ptL ((ldw xs ys a / 4294967296) % 16777216) (ldw xs ys a % 4294967296) (Int.toNat ((ldw xs ys a / 4294967296) % 16777216))) k1)), (32, .elt (.i (ix (ptL ((ldw xs ys a / 4294967296) % 16777216) (ldw xs ys a % 4294967296) (Int.toNat ((ldw xs ys a / 4294967296) % 16777216))) k1))), (31, .i k1), (30, .sl false 1 (List.map (SV.int .i64) (ptL ((ldw xs ys a / 4294967296) % 16777216) (ldw xs ys a % 4294967296) (Int.toNat ((ldw xs ys a / 4294967296) % 16777216))))), (29, .u a), (28, .agg (mm W xs ys)), (24, .bool (decide (k1 < (((ptL ((ldw xs ys a / 4294967296) % 16777216) (ldw xs ys a % 4294967296) (Int.toNat ((ldw xs ys a / 4294967296) % 16777216)))).length : Int)))), (8, .own 2), (9, .i k1), (7, .sl false 1 (List.map (SV.int .i64) (ptL ((ldw xs ys a / 4294967296) % 16777216) (ldw xs ys a % 4294967296) (Int.toNat ((ldw xs ys a / 4294967296) % 16777216))))), (4, .nils), (2, .p 0), (1, .u a)] [] trivial ?_
   refine qen ?_
   refine an ?_
   refine reg ?_
   refine rk [(2, .t)] 4 0 ⟨[(41, .own 3), (8, .own 2), (9, .i k1), (7, .sl false 1 (List.map (SV.int .i64) (ptL (hL xs ys a) (hM xs ys a) (Int.toNat (hL xs ys a))))), (4, .nils), (2, .p 0), (1, .u a)], [(3, .row 1 35 (((m64 ((ptrs W xs ys a).take (Int.toNat k1)))) ++ ([.u (ldw xs ys (a + 2 + (ix (ptL (hL xs ys a) (hM xs ys a) (Int.toNat (hL xs ys a))) k1)))]))), (0, .cells (mm W xs ys) 25)], 4⟩ [(∀ y ∈ ([.u (ldw xs ys (a + 2 + (ix (ptL ((ldw xs ys a / 4294967296) % 16777216) (ldw xs ys a % 4294967296) (Int.toNat ((ldw xs ys a / 4294967296) % 16777216))) k1)))] : List SV), ElemOk y) ∧ (false = true → 1 ≤ ([.u (ldw xs ys (a + 2 + (ix (ptL ((ldw xs ys a / 4294967296) % 16777216) (ldw xs ys a % 4294967296) (Int.toNat ((ldw xs ys a / 4294967296) % 16777216))) k1)))] : List SV).length ∧ ∀ x ∈ ((m64 ((ptrs W xs ys a).take (Int.toNat k1))) : List SV), ElemOk x) ∧ (((m64 ((ptrs W xs ys a).take (Int.toNat k1))) : List SV).length + ([.u (ldw xs ys (a + 2 + (ix (ptL ((ldw xs ys a / 4294967296) % 16777216) (ldw xs ys a % 4294967296) (Int.toNat ((ldw xs ys a / 4294967296) % 16777216))) k1)))] : List SV).length) * 8 ≤ 140737488355328 ∧ ((m64 ((ptrs W xs ys a).take (Int.toNat k1))) : List SV).length + ([.u (ldw xs ys (a + 2 + (ix (ptL ((ldw xs ys a / 4294967296) % 16777216) (ldw xs ys a % 4294967296) (Int.toNat ((ldw xs ys a / 4294967296) % 16777216))) k1)))] : List SV).length ≤ 4611686018427387904] ⟨⟨(by intro y hy; simp at hy; first | (subst hy; rfl) | (rcases hy with rfl | rfl <;> rfl)), (fun h => by cases h), by first | omega | (simp only [len_st]; omega) | (simp; done) | (simp; omega) | (simp [len_st, len_stx, len_sty, len_zx, len_zy]; omega), by first | omega | (simp only [len_st]; omega) | (simp; done) | (simp; omega) | (simp [len_st, len_stx, len_sty, len_zx, len_zy]; omega)⟩, trivial⟩ ?_
   refine setr 3 (z := 1) (E := 35) (L := (((m64 ((ptrs W xs ys a).take (Int.toNat k1)))) ++ ([.u (ldw xs ys (a + 2 + (ix (ptL ((ldw xs ys a / 4294967296) % 16777216) (ldw xs ys a % 4294967296) (Int.toNat ((ldw xs ys a / 4294967296) % 16777216))) k1)))]))) (L' := (m64 (((ptrs W xs ys a).take (Int.toNat k1)) ++ [(ldw xs ys (a + 2 + (ix (ptL ((ldw xs ys a / 4294967296) % 16777216) (ldw xs ys a % 4294967296) (Int.toNat ((ldw xs ys a / 4294967296) % 16777216))) k1)))]))) (by kernel_rfl) app_one ?_
   refine rk [] 1 4 ⟨[(8, .own 3), (9, .i k1), (7, .sl false 1 (List.map (SV.int .i64) (ptL (hL xs ys a) (hM xs ys a) (Int.toNat (hL xs ys a))))), (4, .nils), (2, .p 0), (1, .u a)], [(3, .row 1 35 (m64 (((ptrs W xs ys a).take (Int.toNat k1)) ++ [(ldw xs ys (a + 2 + (ix (ptL (hL xs ys a) (hM xs ys a) (Int.toNat (hL xs ys a))) k1)))]))), (0, .cells (mm W xs ys) 25)], 4⟩ [] trivial ?_
   refine en ?_
   refine ib ?_
   refine an ?_
   refine re [(1, .i (k1 + 1))] 3 ⟨[(9, .i (k1 + 1)), (8, .own 3), (7, .sl false 1 (List.map (SV.int .i64) (ptL (hL xs ys a) (hM xs ys a) (Int.toNat (hL xs ys a))))), (4, .nils), (2, .p 0), (1, .u a)], [(3, .row 1 35 (m64 (((ptrs W xs ys a).take (Int.toNat k1)) ++ [(ldw xs ys (a + 2 + (ix (ptL (hL xs ys a) (hM xs ys a) (Int.toNat (hL xs ys a))) k1)))]))), (0, .cells (mm W xs ys) 25)], 4⟩ [IntKind.i64.wrap (k1 + 1) = (k1 + 1)] ⟨i64_eq (by omega) (by omega), trivial⟩ ?_
   exact ag ⟨(k1 + 1), ⟨(by omega), (by omega)⟩⟩ (le_of [(2, 3)] [((k1 + 1) : Int) = (k1 + 1), (false = true → false = true), ((List.map (SV.int .i64) (ptL ((ldw xs ys a / 4294967296) % 16777216) (ldw xs ys a % 4294967296) (Int.toNat ((ldw xs ys a / 4294967296) % 16777216)))) : List SV) = (List.map (SV.int .i64) (ptL ((ldw xs ys a / 4294967296) % 16777216) (ldw xs ys a % 4294967296) (Int.toNat ((ldw xs ys a / 4294967296) % 16777216)))), (a : Int) = a, ((m64 (((ptrs W xs ys a).take (Int.toNat k1)) ++ [(ldw xs ys (a + 2 + (ix (ptL ((ldw xs ys a / 4294967296) % 16777216) (ldw xs ys a % 4294967296) (Int.toNat ((ldw xs ys a / 4294967296) % 16777216))) k1)))])) : List SV) = (m64 ((ptrs W xs ys a).take (Int.toNat (k1 + 1)))), (W : Int) = W, (false = true → false = true), ((m64 xs) : List SV) = (m64 xs), (false = true → false = true), ((m64 ys) : List SV) = (m64 ys)] (by kernel_rfl) ⟨rfl, id, rfl, rfl, (by first | rfl | exact congrArg _ (ptrs_next (by omega) (by omega) (by omega)) | (simp; done)), rfl, id, rfl, id, rfl, trivial⟩) (by show (((ptL ((ldw xs ys a / 4294967296) % 16777216) (ldw xs ys a % 4294967296) (Int.toNat ((ldw xs ys a / 4294967296) % 16777216))).length : Int) - (k1 + 1)).toNat < (((ptL ((ldw xs ys a / 4294967296) % 16777216) (ldw xs ys a % 4294967296) (Int.toNat ((ldw xs ys a / 4294967296) % 16777216))).length : Int) - k1).toNat; omega)
  ·
   replace h11 : ¬ (k1 < ((ptL ((ldw xs ys a / 4294967296) % 16777216) (ldw xs ys a % 4294967296) (Int.toNat ((ldw xs ys a / 4294967296) % 16777216))).length : Int)) := of_decide_eq_false h11
   refine xw_exit ?_
   refine an_exit ?_
   refine ag_exit ?_
   refine ib_same ?_
   refine an ?_
   refine rg [] 2 ⟨[(4, .own 2)], [(2, .row 1 35 (m64 ((ptrs W xs ys a).take (Int.toNat k1))))], 3⟩ [] trivial ?_
   refine xw_ret ?_
   exact bk_ret (.own 2) (.sl false 1 (m64 ((ptrs W xs ys a).take (Int.toNat k1)))) (.sl false 1 (m64 (ptrs W xs ys a))) (by kernel_rfl) (by kernel_rfl) (wkd [(false = true → false = true), (m64 ((ptrs W xs ys a).take (Int.toNat k1))) = (m64 (ptrs W xs ys a))] (by kernel_rfl) ⟨id, (by first | rfl | exact congrArg _ (ptrs_end (by omega) (by omega)) | exact congrArg _ (ptrs_0 (by omega)).symm), trivial⟩) rfl
 ·
  refine pc (roat_2 W xs ys a ‹_› ‹_› ‹_› ‹_› ‹_› ‹_› ‹_›) ?_
  have h1 : (oErr W xs ys a) = 2 ∨ (oErr W xs ys a) = 10 := oErr_no W xs ys a (by omega)
  refine rk [] 6 3 ⟨[(5, .p 1), (4, .nils), (2, .p 0), (1, .u a)], [(1, .cells [.i 0, .i 0, .u 0] 49), (0, .cells (mm W xs ys) 25)], 2⟩ [True] ⟨trivial, trivial⟩ ?_
  refine en ?_
  refine an ?_
  refine xw_seq ?_
  refine reg ?_
  refine rk [] 1 0 ⟨[(19, .agg [.i 0, .i 0, .u 0]), (4, .nils), (2, .p 0), (1, .u a)], [(0, .cells (mm W xs ys) 25)], 2⟩ [True] ⟨trivial, trivial⟩ ?_
  refine pc (rhptrs 0 0 0 (by omega) (by omega) (by omega)) ?_
  have h2 : ((ptL 0 0 (Int.toNat 0)).length : Int) ≤ 0 := ptL_le (by omega)
  have h3 : I64s (ptL 0 0 (Int.toNat 0)) := ptL_i64 _ _ (by omega)
  refine rk [] 1 2 ⟨[(7, .sl false 1 (List.map (SV.int .i64) (ptL 0 0 (Int.toNat 0)))), (4, .nils), (2, .p 0), (1, .u a)], [(0, .cells (mm W xs ys) 25)], 2⟩ [] trivial ?_
  refine en ?_
  refine an ?_
  refine rg [] 1 ⟨[(8, .nils), (7, .sl false 1 (List.map (SV.int .i64) (ptL 0 0 (Int.toNat 0)))), (4, .nils), (2, .p 0), (1, .u a)], [(0, .cells (mm W xs ys) 25)], 2⟩ [] trivial ?_
  refine xw_seq ?_
  refine rg [] 1 ⟨[(9, .i 0), (8, .nils), (7, .sl false 1 (List.map (SV.int .i64) (ptL 0 0 (Int.toNat 0)))), (4, .nils), (2, .p 0), (1, .u a)], [(0, .cells (mm W xs ys) 25)], 2⟩ [] trivial ?_
  refine xw_block ?_
  refine xw_nilrow 8 1 35 (by kernel_rfl) ?_
  refine xw_unroll 1 ?_
  refine ul_step ?_
  refine xw_seq ?_
  refine rg [(2, .i (((ptL 0 0 (Int.toNat 0))).length : Int)), (3, .f)] 4 ⟨[(24, .f), (8, .own 2), (9, .i 0), (7, .sl false 1 (List.map (SV.int .i64) (ptL 0 0 (Int.toNat 0)))), (4, .nils), (2, .p 0), (1, .u a)], [(2, .row 1 35 (m64 [])), (0, .cells (mm W xs ys) 25)], 3⟩ [((((List.map (SV.int .i64) (ptL 0 0 (Int.toNat 0)))).length : Nat) : Int) = (((ptL 0 0 (Int.toNat 0))).length : Int), (decide (0 < (((ptL 0 0 (Int.toNat 0))).length : Int))) = false] ⟨(by simp), decide_eq_false (by omega), trivial⟩ ?_
  refine cf ?_
  refine xw_exit ?_
  refine an_exit ?_
  refine agu_exit ?_
  refine ib_same ?_
  refine an ?_
  refine rg [] 2 ⟨[(4, .own 2)], [(2, .row 1 35 (m64 []))], 3⟩ [] trivial ?_
  refine xw_ret ?_
  exact bk_ret (.own 2) (.sl false 1 (m64 [])) (.sl false 1 (m64 (ptrs W xs ys a))) (by kernel_rfl) (by kernel_rfl) (wkd [(false = true → false = true), (m64 []) = (m64 (ptrs W xs ys a))] (by kernel_rfl) ⟨id, (by first | rfl | exact congrArg _ (ptrs_end (by omega) (by omega)) | exact congrArg _ (ptrs_0 (by omega)).symm), trivial⟩) rfl

end Go.Proofs.Ytlapjlbmhaalbaa.X
