/- Contracts of Go functions: what each returns, for every input that its premises name; no memory of the caller is touched. Printed by a program. -/
import Derived.Test.YtlapjlbmhaalbaaXb1
import Derived.Test.YtlapjlbmhaalbaaXx3
namespace Go.Proofs.Ytlapjlbmhaalbaa.X
open Go Go.RowKit
set_option linter.unusedVariables false      -- a premise may serve only to tell which way is taken
set_option linter.unusedSimpArgs false
theorem hptrs (t l m : Int) (hp0 : -9223372036854775808 ≤ t ∧ t ≤ 9223372036854775807) (hp1 : 0 ≤ l ∧ l ≤ 16777216) (hp2 : 0 ≤ m ∧ m ≤ 18446744073709551615) : Pub Try.prog 36 [.agg [.i t, .i l, .u m]] (fun rv => rv = .sl false 1 (List.map (SV.int .i64) (ptL l m (Int.toNat l)))) := by
 refine pub_of TT_ok Try.func36 rfl (by decide) (Nat.le_of_ble_eq_true (by kernel_rfl)) (by kernel_rfl) ?_
 refine rg [] 2 ⟨[(2, .nils), (1, .p 0)], [(0, .cells [.i t, .i l, .u m] 49)], 1⟩ [] trivial ?_
 refine rg [] 1 ⟨[(3, .p 1), (2, .nils), (1, .p 0)], [(1, .cells [.nils] 59), (0, .cells [.i t, .i l, .u m] 49)], 2⟩ [] trivial ?_
 refine xw_seq ?_
 refine xw_seq ?_
 refine reg ?_
 refine rk [] 1 0 ⟨[(5, .agg [.i t, .i l, .u m]), (3, .p 1), (2, .nils)], [(1, .cells [.nils] 59)], 2⟩ [True] ⟨trivial, trivial⟩ ?_
 refine callx (f := 52) (args := [.agg [.i t, .i l, .u m]]) (d := (some 6)) (by kernel_rfl) (xcall_of TT_ok Try.func52 rfl (by decide) (Nat.le_of_ble_eq_true (by kernel_rfl)) ?_)
 refine rg [] 2 ⟨[(2, .raw .nilFunc), (1, .p 2)], [(2, .cells [.i t, .i l, .u m] 49), (1, .cells [.nils] 59)], 3⟩ [] trivial ?_
 refine rg [] 2 ⟨[(2, .fn 59 [] [.p 2])], [(2, .cells [.i t, .i l, .u m] 49), (1, .cells [.nils] 59)], 3⟩ [] trivial ?_
 refine xw_ret ?_
 refine ⟨.fn 59 [] [.p 2], by kernel_rfl, ?_⟩
 show XOi _ _ _ _ _ _ _ ⟨[(6, .fn 59 [] [.loc 2 0]), (5, .agg [.int .i64 t, .int .i64 l, .int .u64 m]), (3, .loc 1 0), (2, .nils)], [(2, .cells [.int .i64 t, .int .i64 l, .int .u64 m] 49), (1, .cells [.nils] 59)], 3⟩
 refine en ?_
 refine an ?_
 refine xw_block ?_
 refine xw_range (f := 59) (fst := []) (cap := [.p 2]) (by kernel_rfl) ?_
 intro l0 _ B0 hB0
 refine xcall_of TT_ok Try.func59 rfl (by decide) (Nat.le_of_ble_eq_true (by kernel_rfl)) ?_
 refine rg [] 3 ⟨[(6, .i 0), (5, .i l), (0, .raw (Value.func (.yield l0) #[] #[])), (1, .p 2)], [(3, .lp 3 B0), (2, .cells [.i t, .i l, .u m] 49), (1, .cells [.nils] 59)], 4⟩ [True] ⟨trivial, trivial⟩ ?_
 refine xw_block ?_
 refine xw_nilcell 1 0 1 3 59 (l := [.nils]) (by kernel_rfl) (by kernel_rfl) ?_
 refine xw_loop (α := {q : Int // (0 ≤ q) ∧ (q ≤ l)}) (fun p => ⟨[(6, .i p.1), (5, .i l), (0, .raw (Value.func (.yield l0) #[] #[])), (1, .p 2)], [(4, .row 1 3 (List.map (SV.int .i64) (ptL l m (Int.toNat p.1)))), (3, .lp 3 B0), (2, .cells [.i t, .i l, .u m] 49), (1, .cells [.own 4] 59)], 5⟩) (fun p => (l - p.1).toNat) ⟨0, ⟨(by omega), (by omega)⟩⟩ (le_of [] [(0 : Int) = 0, (l : Int) = l, (Value.func (.yield l0) #[] #[]) = (Value.func (.yield l0) #[] #[]), ((List.map (SV.int .i64) []) : List SV) = (List.map (SV.int .i64) (ptL l m (Int.toNat 0))), B0 = B0, (t : Int) = t, (l : Int) = l, (m : Int) = m] (by kernel_rfl) ⟨rfl, rfl, rfl, (by first | rfl | omega | exact congrArg _ (ptL_yes (by omega) ‹_› rfl) | exact congrArg _ (ptL_no (by omega) ‹_› rfl) | exact congrArg _ (ptL_0 _ _).symm), rfl, rfl, rfl, rfl, trivial⟩) ?_
 rintro ⟨i1, h1, h2⟩
 show XW _ _ _ _ _ _ ⟨[(6, .int .i64 i1), (5, .int .i64 l), (0, .raw (Value.func (.yield l0) #[] #[])), (1, .loc 2 0)], [(4, .row 1 3 (List.map (SV.int .i64) (ptL l m (Int.toNat i1)))), (3, .lp 3 B0), (2, .cells [.int .i64 t, .int .i64 l, .int .u64 m] 49), (1, .cells [.own 4] 59)], 5⟩
 have h3 : ((ptL l m (Int.toNat i1)).length : Int) ≤ i1 := ptL_le (by omega)
 refine rg [(0, .bool (decide (i1 < l)))] 1 ⟨[(7, .bool (decide (i1 < l))), (6, .i i1), (5, .i l), (0, .raw (Value.func (.yield l0) #[] #[])), (1, .p 2)], [(4, .row 1 3 (List.map (SV.int .i64) (ptL l m (Int.toNat i1)))), (3, .lp 3 B0), (2, .cells [.i t, .i l, .u m] 49), (1, .cells [.own 4] 59)], 5⟩ [(decide (i1 < l)) = (decide (i1 < l))] ⟨rfl, trivial⟩ ?_
 refine xw_seq ?_
 refine xw_cond (b := (decide (i1 < l))) (by kernel_rfl) (fun h4 => ?_) (fun h4 => ?_)
 ·
  replace h4 : i1 < l := of_decide_eq_true h4
  refine xw_skip ?_
  refine an ?_
  refine xw_seq ?_
  refine xw_block ?_
  refine rg [] 2 ⟨[(3, .i i1), (6, .i i1), (5, .i l), (0, .raw (Value.func (.yield l0) #[] #[])), (1, .p 2)], [(4, .row 1 3 (List.map (SV.int .i64) (ptL l m (Int.toNat i1)))), (3, .lp 3 B0), (2, .cells [.i t, .i l, .u m] 49), (1, .cells [.own 4] 59)], 5⟩ [] trivial ?_
  refine xw_seq ?_
  refine reg ?_
  refine rk [] 2 0 ⟨[(10, .i i1), (9, .agg [.i t, .i l, .u m]), (3, .i i1), (6, .i i1), (5, .i l), (0, .raw (Value.func (.yield l0) #[] #[])), (1, .p 2)], [(4, .row 1 3 (List.map (SV.int .i64) (ptL l m (Int.toNat i1)))), (3, .lp 3 B0), (2, .cells [.i t, .i l, .u m] 49), (1, .cells [.own 4] 59)], 5⟩ [True] ⟨trivial, trivial⟩ ?_
  refine pc (hpointer t l m i1 ‹_› (by omega) ‹_›) ?_
  refine rk [] 1 3 ⟨[(12, .bool (isPtr l m i1)), (3, .i i1), (6, .i i1), (5, .i l), (0, .raw (Value.func (.yield l0) #[] #[])), (1, .p 2)], [(4, .row 1 3 (List.map (SV.int .i64) (ptL l m (Int.toNat i1)))), (3, .lp 3 B0), (2, .cells [.i t, .i l, .u m] 49), (1, .cells [.own 4] 59)], 5⟩ [] trivial ?_
  refine splitr 12 (x := (isPtr l m i1)) (by kernel_rfl) (fun h5 => ?_) (fun h5 => ?_)
  ·
   replace h5 : isPtr l m i1 = true := h5
   refine rk [] 2 4 ⟨[(14, .i i1), (13, .raw (Value.func (.yield l0) #[] #[])), (12, .t), (6, .i i1), (5, .i l), (0, .raw (Value.func (.yield l0) #[] #[])), (1, .p 2)], [(4, .row 1 3 (List.map (SV.int .i64) (ptL l m (Int.toNat i1)))), (3, .lp 3 B0), (2, .cells [.i t, .i l, .u m] 49), (1, .cells [.own 4] 59)], 5⟩ [] trivial ?_
   refine xoi_yield 3 3 (xs := [.i i1]) (d := some 15) hB0 (by kernel_rfl) (by kernel_rfl) (by kernel_rfl) (by kernel_rfl) ?_
   refine re [] 1 ⟨[(4, .i i1), (3, .p 1)], [(4, .row 1 3 (List.map (SV.int .i64) (ptL l m (Int.toNat i1)))), (2, .cells [.i t, .i l, .u m] 49), (1, .cells [.own 4] 59)], 5⟩ [] trivial ?_
   refine ⟨rfl, ?_⟩
   refine xw_block ?_
   refine reg ?_
   refine rk [(2, .t)] 4 0 ⟨[(11, .own 5), (3, .p 1)], [(5, .row 1 3 (((List.map (SV.int .i64) (ptL l m (Int.toNat i1)))) ++ ([.i i1]))), (2, .cells [.i t, .i l, .u m] 49), (1, .cells [.own 4] 59)], 6⟩ [True, (∀ y ∈ ([.i i1] : List SV), ElemOk y) ∧ (false = true → 1 ≤ ([.i i1] : List SV).length ∧ ∀ x ∈ ((List.map (SV.int .i64) (ptL l m (Int.toNat i1))) : List SV), ElemOk x) ∧ (((List.map (SV.int .i64) (ptL l m (Int.toNat i1))) : List SV).length + ([.i i1] : List SV).length) * 8 ≤ 140737488355328 ∧ ((List.map (SV.int .i64) (ptL l m (Int.toNat i1))) : List SV).length + ([.i i1] : List SV).length ≤ 4611686018427387904] ⟨trivial, ⟨(by intro y hy; simp at hy; first | (subst hy; rfl) | (rcases hy with rfl | rfl <;> rfl)), (fun h => by cases h), by first | omega | (simp only [len_st]; omega) | (simp; done) | (simp; omega) | (simp [len_st, len_stx, len_sty, len_zx, len_zy]; omega), by first | omega | (simp only [len_st]; omega) | (simp; done) | (simp; omega) | (simp [len_st, len_stx, len_sty, len_zx, len_zy]; omega)⟩, trivial⟩ ?_
   refine setr 5 (z := 1) (E := 3) (L := (((List.map (SV.int .i64) (ptL l m (Int.toNat i1)))) ++ ([.i i1]))) (L' := (List.map (SV.int .i64) ((ptL l m (Int.toNat i1)) ++ [i1]))) (by kernel_rfl) app_one ?_
   refine rk [] 1 4 ⟨[], [(5, .row 1 3 (List.map (SV.int .i64) ((ptL l m (Int.toNat i1)) ++ [i1]))), (2, .cells [.i t, .i l, .u m] 49), (1, .cells [.own 5] 59)], 6⟩ [True] ⟨trivial, trivial⟩ ?_
   refine en ?_
   refine ib ?_
   refine yk_normal (by rw [hB0]) ?_
   refine rk [] 2 7 ⟨[(17, .f), (6, .i i1), (5, .i l), (0, .raw (Value.func (.yield l0) #[] #[])), (1, .p 2)], [(3, .lp 3 B0), (5, .row 1 3 (List.map (SV.int .i64) ((ptL l m (Int.toNat i1)) ++ [i1]))), (2, .cells [.i t, .i l, .u m] 49), (1, .cells [.own 5] 59)], 6⟩ [True] ⟨trivial, trivial⟩ ?_
   refine en ?_
   refine an ?_
   refine cf ?_
   refine xw_skip ?_
   refine ib ?_
   refine an ?_
   refine re [(0, .i (i1 + 1))] 2 ⟨[(6, .i (i1 + 1)), (5, .i l), (0, .raw (Value.func (.yield l0) #[] #[])), (1, .p 2)], [(3, .lp 3 B0), (5, .row 1 3 (List.map (SV.int .i64) ((ptL l m (Int.toNat i1)) ++ [i1]))), (2, .cells [.i t, .i l, .u m] 49), (1, .cells [.own 5] 59)], 6⟩ [IntKind.i64.wrap (i1 + 1) = (i1 + 1)] ⟨i64_eq (by omega) (by omega), trivial⟩ ?_
   exact ag ⟨(i1 + 1), ⟨(by omega), (by omega)⟩⟩ (le_of [(4, 5)] [((i1 + 1) : Int) = (i1 + 1), (l : Int) = l, (Value.func (.yield l0) #[] #[]) = (Value.func (.yield l0) #[] #[]), ((List.map (SV.int .i64) ((ptL l m (Int.toNat i1)) ++ [i1])) : List SV) = (List.map (SV.int .i64) (ptL l m (Int.toNat (i1 + 1)))), B0 = B0, (t : Int) = t, (l : Int) = l, (m : Int) = m] (by kernel_rfl) ⟨rfl, rfl, rfl, (by first | rfl | omega | exact congrArg _ (ptL_yes (by omega) ‹_› rfl) | exact congrArg _ (ptL_no (by omega) ‹_› rfl) | exact congrArg _ (ptL_0 _ _).symm), rfl, rfl, rfl, rfl, trivial⟩) (by show (l - (i1 + 1)).toNat < (l - i1).toNat; omega)
  ·
   replace h5 : isPtr l m i1 = false := h5
   refine rk [] 5 4 ⟨[(17, .f), (6, .i i1), (5, .i l), (0, .raw (Value.func (.yield l0) #[] #[])), (1, .p 2)], [(4, .row 1 3 (List.map (SV.int .i64) (ptL l m (Int.toNat i1)))), (3, .lp 3 B0), (2, .cells [.i t, .i l, .u m] 49), (1, .cells [.own 4] 59)], 5⟩ [True] ⟨trivial, trivial⟩ ?_
   refine en ?_
   refine an ?_
   refine cf ?_
   refine xw_skip ?_
   refine ib ?_
   refine an ?_
   refine re [(0, .i (i1 + 1))] 2 ⟨[(6, .i (i1 + 1)), (5, .i l), (0, .raw (Value.func (.yield l0) #[] #[])), (1, .p 2)], [(4, .row 1 3 (List.map (SV.int .i64) (ptL l m (Int.toNat i1)))), (3, .lp 3 B0), (2, .cells [.i t, .i l, .u m] 49), (1, .cells [.own 4] 59)], 5⟩ [IntKind.i64.wrap (i1 + 1) = (i1 + 1)] ⟨i64_eq (by omega) (by omega), trivial⟩ ?_
   exact ag ⟨(i1 + 1), ⟨(by omega), (by omega)⟩⟩ (le_of [] [((i1 + 1) : Int) = (i1 + 1), (l : Int) = l, (Value.func (.yield l0) #[] #[]) = (Value.func (.yield l0) #[] #[]), ((List.map (SV.int .i64) (ptL l m (Int.toNat i1))) : List SV) = (List.map (SV.int .i64) (ptL l m (Int.toNat (i1 + 1)))), B0 = B0, (t : Int) = t, (l : Int) = l, (m : Int) = m] (by kernel_rfl) ⟨rfl, rfl, rfl, (by first | rfl | omega | exact congrArg _ (ptL_yes (by omega) ‹_› rfl) | exact congrArg _ (ptL_no (by omega) ‹_› rfl) | exact congrArg _ (ptL_0 _ _).symm), rfl, rfl, rfl, rfl, trivial⟩) (by show (l - (i1 + 1)).toNat < (l - i1).toNat; omega)
 ·
  replace h4 : ¬ (i1 < l) := of_decide_eq_false h4
  refine xw_exit ?_
  refine an_exit ?_
  refine ag_exit ?_
  refine ib_same ?_
  refine ⟨.tup [], by kernel_rfl, ?_⟩
  refine range_end (q := B0) (by kernel_rfl) (by rw [hB0]) ?_
  refine ib ?_
  refine an ?_
  refine rg [] 2 ⟨[(2, .own 4)], [(4, .row 1 3 (List.map (SV.int .i64) (ptL l m (Int.toNat i1))))], 5⟩ [True] ⟨trivial, trivial⟩ ?_
  refine xw_ret ?_
  exact bk_ret (.own 4) (.sl false 1 (List.map (SV.int .i64) (ptL l m (Int.toNat i1)))) (.sl false 1 (List.map (SV.int .i64) (ptL l m (Int.toNat l)))) (by kernel_rfl) (by kernel_rfl) (wkd [(false = true → false = true), (List.map (SV.int .i64) (ptL l m (Int.toNat i1))) = (List.map (SV.int .i64) (ptL l m (Int.toNat l)))] (by kernel_rfl) ⟨id, (by first | rfl | exact congrArg _ (ptL_eq (by omega))), trivial⟩) rfl

end Go.Proofs.Ytlapjlbmhaalbaa.X
