/- Contracts of Go functions: what each returns, for every input that its premises name; no memory of the caller is touched. Printed by a program. -/
import Derived.Test.YtjchmajamlehmaaXn1
namespace Go.Proofs.Ytjchmajamlehmaa.X
open Go Go.RowKit
set_option linter.unusedVariables false      -- a premise may serve only to tell which way is taken
set_option linter.unusedSimpArgs false
theorem eqwords (l : List Int) (hp0 : U64s l) (hp1 : (l.length : Int) * 8 ≤ 140737488355000) : Pub Try.prog 28 [.sl false 1 (m64 l), .sl false 1 (m64 l)] (fun rv => rv = .t) := by
 refine pub_of TT_ok Try.func28 rfl (by decide) (Nat.le_of_ble_eq_true (by kernel_rfl)) (by kernel_rfl) ?_
 refine rgi [] 1 [4, 0, 1] [] [] trivial ?_
 refine xw_seq ?_
 refine rgi [(1, .i ((l).length : Int)), (3, .i ((l).length : Int)), (4, .f)] 5 [10, 4, 0, 1] [] [((((m64 l)).length : Nat) : Int) = ((l).length : Int), ((((m64 l)).length : Nat) : Int) = ((l).length : Int), (((l).length : Int) != ((l).length : Int)) = false] ⟨(by simp), (by simp), bne_eq_false_iff_eq.2 (by omega), trivial⟩ ?_
 refine cf ?_
 refine xw_skip ?_
 refine an ?_
 refine xw_seq ?_
 refine rgi [] 1 [5, 4, 0, 1] [] [] trivial ?_
 refine xw_block ?_
 refine xw_loop (α := {q : Int // (0 ≤ q) ∧ (q ≤ (l.length : Int))}) (fun p => ⟨[(5, .i p.1), (4, .f), (0, .sl false 1 (m64 l)), (1, .sl false 1 (m64 l))], [], 0⟩) (fun p => ((l.length : Int) - p.1).toNat) ⟨0, ⟨(by omega), (by omega)⟩⟩ (le_of [] [(0 : Int) = 0, false = false, (false = true → false = true), ((m64 l) : List SV) = (m64 l), (false = true → false = true), ((m64 l) : List SV) = (m64 l)] (by kernel_rfl) ⟨rfl, rfl, id, rfl, id, rfl, trivial⟩) ?_
 rintro ⟨i1, h0, h1⟩
 show XW _ _ _ _ _ _ ⟨[(5, .int .i64 i1), (4, .bool false), (0, .sl false 1 (m64 l)), (1, .sl false 1 (m64 l))], [], 0⟩
 refine xw_seq ?_
 refine rgi [(2, .i ((l).length : Int)), (3, .bool (decide (i1 < ((l).length : Int))))] 4 [14, 5, 4, 0, 1] [] [((((m64 l)).length : Nat) : Int) = ((l).length : Int), sm (decide (i1 < ((l).length : Int)))] ⟨(by simp), rfl, trivial⟩ ?_
 refine xw_cond (b := (decide (i1 < ((l).length : Int)))) (by kernel_rfl) (fun h2 => ?_) (fun h2 => ?_)
 ·
  replace h2 : i1 < (l.length : Int) := of_decide_eq_true h2
  refine xw_skip ?_
  refine an ?_
  refine xw_seq ?_
  refine xw_block ?_
  refine xw_seq ?_
  refine dregk hmix (by kernel_rfl) ?_
  refine qri [(2, .u (ix l i1))] 3 0 [(0 : Int) ≤ i1 ∧ i1 < ((((m64 l)).length : Nat) : Int) ∧ ((m64 l))[(i1 : Int).toNat]? = some (.u (ix l i1))] ⟨(ix_ok (by omega) (by first | omega | (simp only [len_st]; omega) | (simp; done) | (simp; omega) | (simp [len_st, len_stx, len_sty, len_zx, len_zy]; omega))), trivial⟩ ?_
  have h3 : 0 ≤ (ix l i1) ∧ (ix l i1) ≤ 18446744073709551615 := U64s.ix (by first | assumption | exact U64s.st (by assumption) _ (by omega)) _
  refine qri [(6, .u (ix l i1))] 4 3 [True, (0 : Int) ≤ i1 ∧ i1 < ((((m64 l)).length : Nat) : Int) ∧ ((m64 l))[(i1 : Int).toNat]? = some (.u (ix l i1))] ⟨trivial, (ix_ok (by omega) (by first | omega | (simp only [len_st]; omega) | (simp; done) | (simp; omega) | (simp [len_st, len_stx, len_sty, len_zx, len_zy]; omega))), trivial⟩ ?_
  have h4 : 0 ≤ (ix l i1) ∧ (ix l i1) ≤ 18446744073709551615 := U64s.ix (by first | assumption | exact U64s.st (by assumption) _ (by omega)) _
  refine qri [(8, .f)] 2 7 [True, ((ix l i1) != (ix l i1)) = false] ⟨trivial, bne_eq_false_iff_eq.2 (by omega), trivial⟩ ?_
  refine qen ?_
  refine an ?_
  refine cf ?_
  refine xw_skip ?_
  refine ib ?_
  refine an ?_
  refine re [(1, .i (i1 + 1))] 3 ⟨[(5, .i (i1 + 1)), (4, .f), (0, .sl false 1 (m64 l)), (1, .sl false 1 (m64 l))], [], 0⟩ [IntKind.i64.wrap (i1 + 1) = (i1 + 1)] ⟨i64_eq (by omega) (by omega), trivial⟩ ?_
  exact ag ⟨(i1 + 1), ⟨(by omega), (by omega)⟩⟩ (le_of [] [((i1 + 1) : Int) = (i1 + 1), false = false, (false = true → false = true), ((m64 l) : List SV) = (m64 l), (false = true → false = true), ((m64 l) : List SV) = (m64 l)] (by kernel_rfl) ⟨rfl, rfl, id, rfl, id, rfl, trivial⟩) (by show ((l.length : Int) - (i1 + 1)).toNat < ((l.length : Int) - i1).toNat; omega)
 ·
  replace h2 : ¬ (i1 < (l.length : Int)) := of_decide_eq_false h2
  refine xw_exit ?_
  refine an_exit ?_
  refine ag_exit ?_
  refine ib_same ?_
  refine an ?_
  refine rgi [] 1 [4] [] [] trivial ?_
  refine xw_ret ?_
  exact bs (.t) rfl

theorem eqints (l : List Int) (hp0 : I64s l) (hp1 : (l.length : Int) * 8 ≤ 140737488355000) : Pub Try.prog 26 [.sl false 1 (List.map (SV.int .i64) l), .sl false 1 (List.map (SV.int .i64) l)] (fun rv => rv = .t) := by
 refine pub_of TT_ok Try.func26 rfl (by decide) (Nat.le_of_ble_eq_true (by kernel_rfl)) (by kernel_rfl) ?_
 refine rgi [] 1 [4, 0, 1] [] [] trivial ?_
 refine xw_seq ?_
 refine rgi [(1, .i ((l).length : Int)), (3, .i ((l).length : Int)), (4, .f)] 5 [10, 4, 0, 1] [] [((((List.map (SV.int .i64) l)).length : Nat) : Int) = ((l).length : Int), ((((List.map (SV.int .i64) l)).length : Nat) : Int) = ((l).length : Int), (((l).length : Int) != ((l).length : Int)) = false] ⟨(by simp), (by simp), bne_eq_false_iff_eq.2 (by omega), trivial⟩ ?_
 refine cf ?_
 refine xw_skip ?_
 refine an ?_
 refine xw_seq ?_
 refine rgi [] 1 [5, 4, 0, 1] [] [] trivial ?_
 refine xw_block ?_
 refine xw_loop (α := {q : Int // (0 ≤ q) ∧ (q ≤ (l.length : Int))}) (fun p => ⟨[(5, .i p.1), (4, .f), (0, .sl false 1 (List.map (SV.int .i64) l)), (1, .sl false 1 (List.map (SV.int .i64) l))], [], 0⟩) (fun p => ((l.length : Int) - p.1).toNat) ⟨0, ⟨(by omega), (by omega)⟩⟩ (le_of [] [(0 : Int) = 0, false = false, (false = true → false = true), ((List.map (SV.int .i64) l) : List SV) = (List.map (SV.int .i64) l), (false = true → false = true), ((List.map (SV.int .i64) l) : List SV) = (List.map (SV.int .i64) l)] (by kernel_rfl) ⟨rfl, rfl, id, rfl, id, rfl, trivial⟩) ?_
 rintro ⟨i1, h0, h1⟩
 show XW _ _ _ _ _ _ ⟨[(5, .int .i64 i1), (4, .bool false), (0, .sl false 1 (List.map (SV.int .i64) l)), (1, .sl false 1 (List.map (SV.int .i64) l))], [], 0⟩
 refine xw_seq ?_
 refine rgi [(2, .i ((l).length : Int)), (3, .bool (decide (i1 < ((l).length : Int))))] 4 [14, 5, 4, 0, 1] [] [((((List.map (SV.int .i64) l)).length : Nat) : Int) = ((l).length : Int), sm (decide (i1 < ((l).length : Int)))] ⟨(by simp), rfl, trivial⟩ ?_
 refine xw_cond (b := (decide (i1 < ((l).length : Int)))) (by kernel_rfl) (fun h2 => ?_) (fun h2 => ?_)
 ·
  replace h2 : i1 < (l.length : Int) := of_decide_eq_true h2
  refine xw_skip ?_
  refine an ?_
  refine xw_seq ?_
  refine xw_block ?_
  refine xw_seq ?_
  refine dregk hmix (by kernel_rfl) ?_
  refine qri [(2, .i (ix l i1))] 3 0 [(0 : Int) ≤ i1 ∧ i1 < ((((List.map (SV.int .i64) l)).length : Nat) : Int) ∧ ((List.map (SV.int .i64) l))[(i1 : Int).toNat]? = some (.i (ix l i1))] ⟨(ix_ok (by omega) (by first | omega | (simp only [len_st]; omega) | (simp; done) | (simp; omega) | (simp [len_st, len_stx, len_sty, len_zx, len_zy]; omega))), trivial⟩ ?_
  have h3 : -9223372036854775808 ≤ (ix l i1) ∧ (ix l i1) ≤ 9223372036854775807 := I64s.ix (by first | assumption | exact U64s.st (by assumption) _ (by omega)) _
  refine qri [(6, .i (ix l i1))] 4 3 [True, (0 : Int) ≤ i1 ∧ i1 < ((((List.map (SV.int .i64) l)).length : Nat) : Int) ∧ ((List.map (SV.int .i64) l))[(i1 : Int).toNat]? = some (.i (ix l i1))] ⟨trivial, (ix_ok (by omega) (by first | omega | (simp only [len_st]; omega) | (simp; done) | (simp; omega) | (simp [len_st, len_stx, len_sty, len_zx, len_zy]; omega))), trivial⟩ ?_
  have h4 : -9223372036854775808 ≤ (ix l i1) ∧ (ix l i1) ≤ 9223372036854775807 := I64s.ix (by first | assumption | exact U64s.st (by assumption) _ (by omega)) _
  refine qri [(8, .f)] 2 7 [True, ((ix l i1) != (ix l i1)) = false] ⟨trivial, bne_eq_false_iff_eq.2 (by omega), trivial⟩ ?_
  refine qen ?_
  refine an ?_
  refine cf ?_
  refine xw_skip ?_
  refine ib ?_
  refine an ?_
  refine re [(1, .i (i1 + 1))] 3 ⟨[(5, .i (i1 + 1)), (4, .f), (0, .sl false 1 (List.map (SV.int .i64) l)), (1, .sl false 1 (List.map (SV.int .i64) l))], [], 0⟩ [IntKind.i64.wrap (i1 + 1) = (i1 + 1)] ⟨i64_eq (by omega) (by omega), trivial⟩ ?_
  exact ag ⟨(i1 + 1), ⟨(by omega), (by omega)⟩⟩ (le_of [] [((i1 + 1) : Int) = (i1 + 1), false = false, (false = true → false = true), ((List.map (SV.int .i64) l) : List SV) = (List.map (SV.int .i64) l), (false = true → false = true), ((List.map (SV.int .i64) l) : List SV) = (List.map (SV.int .i64) l)] (by kernel_rfl) ⟨rfl, rfl, id, rfl, id, rfl, trivial⟩) (by show ((l.length : Int) - (i1 + 1)).toNat < ((l.length : Int) - i1).toNat; omega)
 ·
  replace h2 : ¬ (i1 < (l.length : Int)) := of_decide_eq_false h2
  refine xw_exit ?_
  refine an_exit ?_
  refine ag_exit ?_
  refine ib_same ?_
  refine an ?_
  refine rgi [] 1 [4] [] [] trivial ?_
  refine xw_ret ?_
  exact bs (.t) rfl

theorem eqents (l : List Ent) (hp0 : Ents l) (hp1 : (l.length : Int) * 16 ≤ 140737488355000) : Pub Try.prog 46 [.sl false 2 (List.map entS l), .sl false 2 (List.map entS l)] (fun rv => rv = .t) := by
 refine pub_of TT_ok Try.func46 rfl (by decide) (Nat.le_of_ble_eq_true (by kernel_rfl)) (by kernel_rfl) ?_
 refine rgi [] 1 [4, 0, 1] [] [] trivial ?_
 refine xw_seq ?_
 refine rgi [(1, .i ((l).length : Int)), (3, .i ((l).length : Int)), (4, .f)] 5 [10, 4, 0, 1] [] [((((List.map entS l)).length : Nat) : Int) = ((l).length : Int), ((((List.map entS l)).length : Nat) : Int) = ((l).length : Int), (((l).length : Int) != ((l).length : Int)) = false] ⟨(by simp), (by simp), bne_eq_false_iff_eq.2 (by omega), trivial⟩ ?_
 refine cf ?_
 refine xw_skip ?_
 refine an ?_
 refine xw_seq ?_
 refine rgi [] 1 [5, 4, 0, 1] [] [] trivial ?_
 refine xw_block ?_
 refine xw_loop (α := {q : Int // (0 ≤ q) ∧ (q ≤ (l.length : Int))}) (fun p => ⟨[(5, .i p.1), (4, .f), (0, .sl false 2 (List.map entS l)), (1, .sl false 2 (List.map entS l))], [], 0⟩) (fun p => ((l.length : Int) - p.1).toNat) ⟨0, ⟨(by omega), (by omega)⟩⟩ (le_of [] [(0 : Int) = 0, false = false, (false = true → false = true), ((List.map entS l) : List SV) = (List.map entS l), (false = true → false = true), ((List.map entS l) : List SV) = (List.map entS l)] (by kernel_rfl) ⟨rfl, rfl, id, rfl, id, rfl, trivial⟩) ?_
 rintro ⟨i1, h0, h1⟩
 show XW _ _ _ _ _ _ ⟨[(5, .int .i64 i1), (4, .bool false), (0, .sl false 2 (List.map entS l)), (1, .sl false 2 (List.map entS l))], [], 0⟩
 refine xw_seq ?_
 refine rgi [(2, .i ((l).length : Int)), (3, .bool (decide (i1 < ((l).length : Int))))] 4 [14, 5, 4, 0, 1] [] [((((List.map entS l)).length : Nat) : Int) = ((l).length : Int), sm (decide (i1 < ((l).length : Int)))] ⟨(by simp), rfl, trivial⟩ ?_
 refine xw_cond (b := (decide (i1 < ((l).length : Int)))) (by kernel_rfl) (fun h2 => ?_) (fun h2 => ?_)
 ·
  replace h2 : i1 < (l.length : Int) := of_decide_eq_true h2
  refine xw_skip ?_
  refine an ?_
  refine xw_seq ?_
  refine xw_block ?_
  refine xw_seq ?_
  refine dregk hmix (by kernel_rfl) ?_
  refine qri [(2, .agg [.u (eO l i1), .i (eF l i1)])] 3 0 [(0 : Int) ≤ i1 ∧ i1 < ((((List.map entS l)).length : Nat) : Int) ∧ ((List.map entS l))[(i1 : Int).toNat]? = some (.agg [.u (eO l i1), .i (eF l i1)])] ⟨(ix_ent (by omega) (by first | omega | (simp only [len_st]; omega) | (simp; done) | (simp; omega) | (simp [len_st, len_stx, len_sty, len_zx, len_zy]; omega))), trivial⟩ ?_
  have h3 : (0 ≤ (eO l i1) ∧ (eO l i1) ≤ 18446744073709551615) ∧ (-9223372036854775808 ≤ (eF l i1) ∧ (eF l i1) ≤ 9223372036854775807) := Ents.at (by first | assumption | exact U64s.st (by assumption) _ (by omega)) _
  refine qri [(6, .agg [.u (eO l i1), .i (eF l i1)])] 4 3 [True, (0 : Int) ≤ i1 ∧ i1 < ((((List.map entS l)).length : Nat) : Int) ∧ ((List.map entS l))[(i1 : Int).toNat]? = some (.agg [.u (eO l i1), .i (eF l i1)])] ⟨trivial, (ix_ent (by omega) (by first | omega | (simp only [len_st]; omega) | (simp; done) | (simp; omega) | (simp [len_st, len_stx, len_sty, len_zx, len_zy]; omega))), trivial⟩ ?_
  have h4 : (0 ≤ (eO l i1) ∧ (eO l i1) ≤ 18446744073709551615) ∧ (-9223372036854775808 ≤ (eF l i1) ∧ (eF l i1) ≤ 9223372036854775807) := Ents.at (by first | assumption | exact U64s.st (by assumption) _ (by omega)) _
  refine qri [(8, .f)] 2 7 [True, (!(((eO l i1) == (eO l i1)) && (((eF l i1) == (eF l i1)) && true))) = false] ⟨trivial, (by first | (simp <;> omega) | (simp only [Bool.not_eq_eq_eq_not, Bool.not_true, Bool.not_false, Bool.and_eq_true, beq_iff_eq, and_true]; and_intros <;> first | omega | assumption)), trivial⟩ ?_
  refine qen ?_
  refine an ?_
  refine cf ?_
  refine xw_skip ?_
  refine ib ?_
  refine an ?_
  refine re [(1, .i (i1 + 1))] 3 ⟨[(5, .i (i1 + 1)), (4, .f), (0, .sl false 2 (List.map entS l)), (1, .sl false 2 (List.map entS l))], [], 0⟩ [IntKind.i64.wrap (i1 + 1) = (i1 + 1)] ⟨i64_eq (by omega) (by omega), trivial⟩ ?_
  exact ag ⟨(i1 + 1), ⟨(by omega), (by omega)⟩⟩ (le_of [] [((i1 + 1) : Int) = (i1 + 1), false = false, (false = true → false = true), ((List.map entS l) : List SV) = (List.map entS l), (false = true → false = true), ((List.map entS l) : List SV) = (List.map entS l)] (by kernel_rfl) ⟨rfl, rfl, id, rfl, id, rfl, trivial⟩) (by show ((l.length : Int) - (i1 + 1)).toNat < ((l.length : Int) - i1).toNat; omega)
 ·
  replace h2 : ¬ (i1 < (l.length : Int)) := of_decide_eq_false h2
  refine xw_exit ?_
  refine an_exit ?_
  refine ag_exit ?_
  refine ib_same ?_
  refine an ?_
  refine rgi [] 1 [4] [] [] trivial ?_
  refine xw_ret ?_
  exact bs (.t) rfl

theorem eqops (l : List OpV) (hp0 : Ops l) (hp1 : (l.length : Int) * 64 ≤ 140737488355000) : Pub Try.prog 18 [.sl false 8 (List.map opS l), .sl false 8 (List.map opS l)] (fun rv => rv = .t) := by
 refine pub_of TT_ok Try.func18 rfl (by decide) (Nat.le_of_ble_eq_true (by kernel_rfl)) (by kernel_rfl) ?_
 refine rgi [] 1 [4, 0, 1] [] [] trivial ?_
 refine xw_seq ?_
 refine rgi [(1, .i ((l).length : Int)), (3, .i ((l).length : Int)), (4, .f)] 5 [10, 4, 0, 1] [] [((((List.map opS l)).length : Nat) : Int) = ((l).length : Int), ((((List.map opS l)).length : Nat) : Int) = ((l).length : Int), (((l).length : Int) != ((l).length : Int)) = false] ⟨(by simp), (by simp), bne_eq_false_iff_eq.2 (by omega), trivial⟩ ?_
 refine cf ?_
 refine xw_skip ?_
 refine an ?_
 refine xw_seq ?_
 refine rgi [] 1 [5, 4, 0, 1] [] [] trivial ?_
 refine xw_block ?_
 refine xw_loop (α := {q : Int // (0 ≤ q) ∧ (q ≤ (l.length : Int))}) (fun p => ⟨[(5, .i p.1), (4, .f), (0, .sl false 8 (List.map opS l)), (1, .sl false 8 (List.map opS l))], [], 0⟩) (fun p => ((l.length : Int) - p.1).toNat) ⟨0, ⟨(by omega), (by omega)⟩⟩ (le_of [] [(0 : Int) = 0, false = false, (false = true → false = true), ((List.map opS l) : List SV) = (List.map opS l), (false = true → false = true), ((List.map opS l) : List SV) = (List.map opS l)] (by kernel_rfl) ⟨rfl, rfl, id, rfl, id, rfl, trivial⟩) ?_
 rintro ⟨i1, h0, h1⟩
 show XW _ _ _ _ _ _ ⟨[(5, .int .i64 i1), (4, .bool false), (0, .sl false 8 (List.map opS l)), (1, .sl false 8 (List.map opS l))], [], 0⟩
 refine xw_seq ?_
 refine rgi [(2, .i ((l).length : Int)), (3, .bool (decide (i1 < ((l).length : Int))))] 4 [14, 5, 4, 0, 1] [] [((((List.map opS l)).length : Nat) : Int) = ((l).length : Int), sm (decide (i1 < ((l).length : Int)))] ⟨(by simp), rfl, trivial⟩ ?_
 refine xw_cond (b := (decide (i1 < ((l).length : Int)))) (by kernel_rfl) (fun h2 => ?_) (fun h2 => ?_)
 ·
  replace h2 : i1 < (l.length : Int) := of_decide_eq_true h2
  refine xw_skip ?_
  refine an ?_
  refine xw_seq ?_
  refine xw_block ?_
  refine xw_seq ?_
  refine dregk hmix (by kernel_rfl) ?_
  refine qri [(2, .agg [.i (OpV.k (opA l i1)), .i (OpV.h (opA l i1)), .i (OpV.i (opA l i1)), .i (OpV.j (opA l i1)), .u (OpV.v (opA l i1)), .i (OpV.t (opA l i1)), .i (OpV.l (opA l i1)), .u (OpV.m (opA l i1))])] 3 0 [(0 : Int) ≤ i1 ∧ i1 < ((((List.map opS l)).length : Nat) : Int) ∧ ((List.map opS l))[(i1 : Int).toNat]? = some (.agg [.i (OpV.k (opA l i1)), .i (OpV.h (opA l i1)), .i (OpV.i (opA l i1)), .i (OpV.j (opA l i1)), .u (OpV.v (opA l i1)), .i (OpV.t (opA l i1)), .i (OpV.l (opA l i1)), .u (OpV.m (opA l i1))])] ⟨(ix_op (by omega) (by first | omega | (simp only [len_st]; omega) | (simp; done) | (simp; omega) | (simp [len_st, len_stx, len_sty, len_zx, len_zy]; omega))), trivial⟩ ?_
  have h3 : (-9223372036854775808 ≤ (OpV.k (opA l i1)) ∧ (OpV.k (opA l i1)) ≤ 9223372036854775807) := (Ops.at (by first | assumption | exact U64s.st (by assumption) _ (by omega)) _).1
  have h4 : (-9223372036854775808 ≤ (OpV.h (opA l i1)) ∧ (OpV.h (opA l i1)) ≤ 9223372036854775807) := (Ops.at (by first | assumption | exact U64s.st (by assumption) _ (by omega)) _).2.1
  have h5 : (-9223372036854775808 ≤ (OpV.i (opA l i1)) ∧ (OpV.i (opA l i1)) ≤ 9223372036854775807) := (Ops.at (by first | assumption | exact U64s.st (by assumption) _ (by omega)) _).2.2.1
  have h6 : (-9223372036854775808 ≤ (OpV.j (opA l i1)) ∧ (OpV.j (opA l i1)) ≤ 9223372036854775807) := (Ops.at (by first | assumption | exact U64s.st (by assumption) _ (by omega)) _).2.2.2.1
  have h7 : (0 ≤ (OpV.v (opA l i1)) ∧ (OpV.v (opA l i1)) ≤ 18446744073709551615) := (Ops.at (by first | assumption | exact U64s.st (by assumption) _ (by omega)) _).2.2.2.2.1
  have h8 : (-9223372036854775808 ≤ (OpV.t (opA l i1)) ∧ (OpV.t (opA l i1)) ≤ 9223372036854775807) := (Ops.at (by first | assumption | exact U64s.st (by assumption) _ (by omega)) _).2.2.2.2.2.1
  have h9 : (-9223372036854775808 ≤ (OpV.l (opA l i1)) ∧ (OpV.l (opA l i1)) ≤ 9223372036854775807) := (Ops.at (by first | assumption | exact U64s.st (by assumption) _ (by omega)) _).2.2.2.2.2.2.1
  have h10 : (0 ≤ (OpV.m (opA l i1)) ∧ (OpV.m (opA l i1)) ≤ 18446744073709551615) := (Ops.at (by first | assumption | exact U64s.st (by assumption) _ (by omega)) _).2.2.2.2.2.2.2
  refine qri [(6, .agg [.i (OpV.k (opA l i1)), .i (OpV.h (opA l i1)), .i (OpV.i (opA l i1)), .i (OpV.j (opA l i1)), .u (OpV.v (opA l i1)), .i (OpV.t (opA l i1)), .i (OpV.l (opA l i1)), .u (OpV.m (opA l i1))])] 4 3 [True, (0 : Int) ≤ i1 ∧ i1 < ((((List.map opS l)).length : Nat) : Int) ∧ ((List.map opS l))[(i1 : Int).toNat]? = some (.agg [.i (OpV.k (opA l i1)), .i (OpV.h (opA l i1)), .i (OpV.i (opA l i1)), .i (OpV.j (opA l i1)), .u (OpV.v (opA l i1)), .i (OpV.t (opA l i1)), .i (OpV.l (opA l i1)), .u (OpV.m (opA l i1))])] ⟨trivial, (ix_op (by omega) (by first | omega | (simp only [len_st]; omega) | (simp; done) | (simp; omega) | (simp [len_st, len_stx, len_sty, len_zx, len_zy]; omega))), trivial⟩ ?_
  have h11 : (-9223372036854775808 ≤ (OpV.k (opA l i1)) ∧ (OpV.k (opA l i1)) ≤ 9223372036854775807) := (Ops.at (by first | assumption | exact U64s.st (by assumption) _ (by omega)) _).1
  have h12 : (-9223372036854775808 ≤ (OpV.h (opA l i1)) ∧ (OpV.h (opA l i1)) ≤ 9223372036854775807) := (Ops.at (by first | assumption | exact U64s.st (by assumption) _ (by omega)) _).2.1
  have h13 : (-9223372036854775808 ≤ (OpV.i (opA l i1)) ∧ (OpV.i (opA l i1)) ≤ 9223372036854775807) := (Ops.at (by first | assumption | exact U64s.st (by assumption) _ (by omega)) _).2.2.1
  have h14 : (-9223372036854775808 ≤ (OpV.j (opA l i1)) ∧ (OpV.j (opA l i1)) ≤ 9223372036854775807) := (Ops.at (by first | assumption | exact U64s.st (by assumption) _ (by omega)) _).2.2.2.1
  have h15 : (0 ≤ (OpV.v (opA l i1)) ∧ (OpV.v (opA l i1)) ≤ 18446744073709551615) := (Ops.at (by first | assumption | exact U64s.st (by assumption) _ (by omega)) _).2.2.2.2.1
  have h16 : (-9223372036854775808 ≤ (OpV.t (opA l i1)) ∧ (OpV.t (opA l i1)) ≤ 9223372036854775807) := (Ops.at (by first | assumption | exact U64s.st (by assumption) _ (by omega)) _).2.2.2.2.2.1
  have h17 : (-9223372036854775808 ≤ (OpV.l (opA l i1)) ∧ (OpV.l (opA l i1)) ≤ 9223372036854775807) := (Ops.at (by first | assumption | exact U64s.st (by assumption) _ (by omega)) _).2.2.2.2.2.2.1
  have h18 : (0 ≤ (OpV.m (opA l i1)) ∧ (OpV.m (opA l i1)) ≤ 18446744073709551615) := (Ops.at (by first | assumption | exact U64s.st (by assumption) _ (by omega)) _).2.2.2.2.2.2.2
  refine qri [(8, .f)] 2 7 [True, (!(((OpV.k (opA l i1)) == (OpV.k (opA l i1))) && (((OpV.h (opA l i1)) == (OpV.h (opA l i1))) && (((OpV.i (opA l i1)) == (OpV.i (opA l i1))) && (((OpV.j (opA l i1)) == (OpV.j (opA l i1))) && (((OpV.v (opA l i1)) == (OpV.v (opA l i1))) && ((((OpV.t (opA l i1)) == (OpV.t (opA l i1))) && (((OpV.l (opA l i1)) == (OpV.l (opA l i1))) && (((OpV.m (opA l i1)) == (OpV.m (opA l i1))) && true))) && true))))))) = false] ⟨trivial, (by first | (simp <;> omega) | (simp only [Bool.not_eq_eq_eq_not, Bool.not_true, Bool.not_false, Bool.and_eq_true, beq_iff_eq, and_true]; and_intros <;> first | omega | assumption)), trivial⟩ ?_
  refine qen ?_
  refine an ?_
  refine cf ?_
  refine xw_skip ?_
  refine ib ?_
  refine an ?_
  refine re [(1, .i (i1 + 1))] 3 ⟨[(5, .i (i1 + 1)), (4, .f), (0, .sl false 8 (List.map opS l)), (1, .sl false 8 (List.map opS l))], [], 0⟩ [IntKind.i64.wrap (i1 + 1) = (i1 + 1)] ⟨i64_eq (by omega) (by omega), trivial⟩ ?_
  exact ag ⟨(i1 + 1), ⟨(by omega), (by omega)⟩⟩ (le_of [] [((i1 + 1) : Int) = (i1 + 1), false = false, (false = true → false = true), ((List.map opS l) : List SV) = (List.map opS l), (false = true → false = true), ((List.map opS l) : List SV) = (List.map opS l)] (by kernel_rfl) ⟨rfl, rfl, id, rfl, id, rfl, trivial⟩) (by show ((l.length : Int) - (i1 + 1)).toNat < ((l.length : Int) - i1).toNat; omega)
 ·
  replace h2 : ¬ (i1 < (l.length : Int)) := of_decide_eq_false h2
  refine xw_exit ?_
  refine an_exit ?_
  refine ag_exit ?_
  refine ib_same ?_
  refine an ?_
  refine rgi [] 1 [4] [] [] trivial ?_
  refine xw_ret ?_
  exact bs (.t) rfl

theorem eqans (l : List AnsV) (hp0 : Anss l) (hp1 : (l.length : Int) * 24 ≤ 140737488355000) : Pub Try.prog 17 [.sl false 3 (List.map ansS l), .sl false 3 (List.map ansS l)] (fun rv => rv = .t) := by
 refine pub_of TT_ok Try.func17 rfl (by decide) (Nat.le_of_ble_eq_true (by kernel_rfl)) (by kernel_rfl) ?_
 refine rgi [] 1 [4, 0, 1] [] [] trivial ?_
 refine xw_seq ?_
 refine rgi [(1, .i ((l).length : Int)), (3, .i ((l).length : Int)), (4, .f)] 5 [10, 4, 0, 1] [] [((((List.map ansS l)).length : Nat) : Int) = ((l).length : Int), ((((List.map ansS l)).length : Nat) : Int) = ((l).length : Int), (((l).length : Int) != ((l).length : Int)) = false] ⟨(by simp), (by simp), bne_eq_false_iff_eq.2 (by omega), trivial⟩ ?_
 refine cf ?_
 refine xw_skip ?_
 refine an ?_
 refine xw_seq ?_
 refine rgi [] 1 [5, 4, 0, 1] [] [] trivial ?_
 refine xw_block ?_
 refine xw_loop (α := {q : Int // (0 ≤ q) ∧ (q ≤ (l.length : Int))}) (fun p => ⟨[(5, .i p.1), (4, .f), (0, .sl false 3 (List.map ansS l)), (1, .sl false 3 (List.map ansS l))], [], 0⟩) (fun p => ((l.length : Int) - p.1).toNat) ⟨0, ⟨(by omega), (by omega)⟩⟩ (le_of [] [(0 : Int) = 0, false = false, (false = true → false = true), ((List.map ansS l) : List SV) = (List.map ansS l), (false = true → false = true), ((List.map ansS l) : List SV) = (List.map ansS l)] (by kernel_rfl) ⟨rfl, rfl, id, rfl, id, rfl, trivial⟩) ?_
 rintro ⟨i1, h0, h1⟩
 show XW _ _ _ _ _ _ ⟨[(5, .int .i64 i1), (4, .bool false), (0, .sl false 3 (List.map ansS l)), (1, .sl false 3 (List.map ansS l))], [], 0⟩
 refine xw_seq ?_
 refine rgi [(2, .i ((l).length : Int)), (3, .bool (decide (i1 < ((l).length : Int))))] 4 [14, 5, 4, 0, 1] [] [((((List.map ansS l)).length : Nat) : Int) = ((l).length : Int), sm (decide (i1 < ((l).length : Int)))] ⟨(by simp), rfl, trivial⟩ ?_
 refine xw_cond (b := (decide (i1 < ((l).length : Int)))) (by kernel_rfl) (fun h2 => ?_) (fun h2 => ?_)
 ·
  replace h2 : i1 < (l.length : Int) := of_decide_eq_true h2
  refine xw_skip ?_
  refine an ?_
  refine xw_seq ?_
  refine xw_block ?_
  refine xw_seq ?_
  refine dregk hmix (by kernel_rfl) ?_
  refine qri [(2, .agg [.i (AnsV.e (ansA l i1)), .u (AnsV.v (ansA l i1)), .bool (AnsV.y (ansA l i1))])] 3 0 [(0 : Int) ≤ i1 ∧ i1 < ((((List.map ansS l)).length : Nat) : Int) ∧ ((List.map ansS l))[(i1 : Int).toNat]? = some (.agg [.i (AnsV.e (ansA l i1)), .u (AnsV.v (ansA l i1)), .bool (AnsV.y (ansA l i1))])] ⟨(ix_ans (by omega) (by first | omega | (simp only [len_st]; omega) | (simp; done) | (simp; omega) | (simp [len_st, len_stx, len_sty, len_zx, len_zy]; omega))), trivial⟩ ?_
  have h3 : (-9223372036854775808 ≤ (AnsV.e (ansA l i1)) ∧ (AnsV.e (ansA l i1)) ≤ 9223372036854775807) := (Anss.at (by first | assumption | exact U64s.st (by assumption) _ (by omega)) _).1
  have h4 : (0 ≤ (AnsV.v (ansA l i1)) ∧ (AnsV.v (ansA l i1)) ≤ 18446744073709551615) := (Anss.at (by first | assumption | exact U64s.st (by assumption) _ (by omega)) _).2
  refine qri [(6, .agg [.i (AnsV.e (ansA l i1)), .u (AnsV.v (ansA l i1)), .bool (AnsV.y (ansA l i1))])] 4 3 [True, (0 : Int) ≤ i1 ∧ i1 < ((((List.map ansS l)).length : Nat) : Int) ∧ ((List.map ansS l))[(i1 : Int).toNat]? = some (.agg [.i (AnsV.e (ansA l i1)), .u (AnsV.v (ansA l i1)), .bool (AnsV.y (ansA l i1))])] ⟨trivial, (ix_ans (by omega) (by first | omega | (simp only [len_st]; omega) | (simp; done) | (simp; omega) | (simp [len_st, len_stx, len_sty, len_zx, len_zy]; omega))), trivial⟩ ?_
  have h5 : (-9223372036854775808 ≤ (AnsV.e (ansA l i1)) ∧ (AnsV.e (ansA l i1)) ≤ 9223372036854775807) := (Anss.at (by first | assumption | exact U64s.st (by assumption) _ (by omega)) _).1
  have h6 : (0 ≤ (AnsV.v (ansA l i1)) ∧ (AnsV.v (ansA l i1)) ≤ 18446744073709551615) := (Anss.at (by first | assumption | exact U64s.st (by assumption) _ (by omega)) _).2
  refine qri [(8, .f)] 2 7 [True, (!(((AnsV.e (ansA l i1)) == (AnsV.e (ansA l i1))) && (((AnsV.v (ansA l i1)) == (AnsV.v (ansA l i1))) && (((AnsV.y (ansA l i1)) == (AnsV.y (ansA l i1))) && true)))) = false] ⟨trivial, (by first | (simp <;> omega) | (simp only [Bool.not_eq_eq_eq_not, Bool.not_true, Bool.not_false, Bool.and_eq_true, beq_iff_eq, and_true]; and_intros <;> first | omega | assumption)), trivial⟩ ?_
  refine qen ?_
  refine an ?_
  refine cf ?_
  refine xw_skip ?_
  refine ib ?_
  refine an ?_
  refine re [(1, .i (i1 + 1))] 3 ⟨[(5, .i (i1 + 1)), (4, .f), (0, .sl false 3 (List.map ansS l)), (1, .sl false 3 (List.map ansS l))], [], 0⟩ [IntKind.i64.wrap (i1 + 1) = (i1 + 1)] ⟨i64_eq (by omega) (by omega), trivial⟩ ?_
  exact ag ⟨(i1 + 1), ⟨(by omega), (by omega)⟩⟩ (le_of [] [((i1 + 1) : Int) = (i1 + 1), false = false, (false = true → false = true), ((List.map ansS l) : List SV) = (List.map ansS l), (false = true → false = true), ((List.map ansS l) : List SV) = (List.map ansS l)] (by kernel_rfl) ⟨rfl, rfl, id, rfl, id, rfl, trivial⟩) (by show ((l.length : Int) - (i1 + 1)).toNat < ((l.length : Int) - i1).toNat; omega)
 ·
  replace h2 : ¬ (i1 < (l.length : Int)) := of_decide_eq_false h2
  refine xw_exit ?_
  refine an_exit ?_
  refine ag_exit ?_
  refine ib_same ?_
  refine an ?_
  refine rgi [] 1 [4] [] [] trivial ?_
  refine xw_ret ?_
  exact bs (.t) rfl

theorem eqthread (st : List Int) (b0 b1 : Int) (lg : List Ent) (lf : List OpV) (pd : List Ent) (wt : Bool) (dn : List AnsV) (hp0 : U64s st) (hp1 : (st.length : Int) * 8 ≤ 140737488355000) (hp2 : -9223372036854775808 ≤ b0 ∧ b0 ≤ 9223372036854775807) (hp3 : -9223372036854775808 ≤ b1 ∧ b1 ≤ 9223372036854775807) (hp4 : Ents lg) (hp5 : (lg.length : Int) * 16 ≤ 140737488355000) (hp6 : Ops lf) (hp7 : (lf.length : Int) * 64 ≤ 140737488355000) (hp8 : Ents pd) (hp9 : (pd.length : Int) * 16 ≤ 140737488355000) (hp10 : Anss dn) (hp11 : (dn.length : Int) * 24 ≤ 140737488355000) : Pub Try.prog 27 [.agg [.sl false 1 (m64 st), .i b0, .i b1, .sl false 2 (List.map entS lg), .sl false 8 (List.map opS lf), .sl false 2 (List.map entS pd), .bool wt, .sl false 3 (List.map ansS dn)], .agg [.sl false 1 (m64 st), .i b0, .i b1, .sl false 2 (List.map entS lg), .sl false 8 (List.map opS lf), .sl false 2 (List.map entS pd), .bool wt, .sl false 3 (List.map ansS dn)]] (fun rv => rv = .t) := by
 refine pub_of TT_ok Try.func27 rfl (by decide) (Nat.le_of_ble_eq_true (by kernel_rfl)) (by kernel_rfl) ?_
 refine rgi [] 3 [4, 3, 2] [1, 0] [] trivial ?_
 refine xw_seq ?_
 refine reg ?_
 refine rki [] 4 0 [10, 8, 4, 3, 2] [1, 0] [True, True] ⟨trivial, trivial, trivial⟩ ?_
 refine pc (eqwords st ‹_› (by omega)) ?_
 refine rki [] 5 5 [16, 14, 12, 4, 3, 2] [1, 0] [True, True] ⟨trivial, trivial, trivial⟩ ?_
 refine pc (eqents lg ‹_› (by omega)) ?_
 refine rk [] 6 11 ⟨[(23, .sl false 2 (List.map entS pd)), (21, .sl false 2 (List.map entS pd)), (19, .t), (4, .f), (3, .p 1), (2, .p 0)], [(1, .cells [.sl false 1 (m64 st), .i b0, .i b1, .sl false 2 (List.map entS lg), .sl false 8 (List.map opS lf), .sl false 2 (List.map entS pd), .bool wt, .sl false 3 (List.map ansS dn)] 44), (0, .cells [.sl false 1 (m64 st), .i b0, .i b1, .sl false 2 (List.map entS lg), .sl false 8 (List.map opS lf), .sl false 2 (List.map entS pd), .bool wt, .sl false 3 (List.map ansS dn)] 44)], 2⟩ [True, True, True] ⟨trivial, trivial, trivial, trivial⟩ ?_
 refine pc (eqents pd ‹_› (by omega)) ?_
 refine rki [] 2 18 [5, 4, 3, 2] [1, 0] [True] ⟨trivial, trivial⟩ ?_
 refine en ?_
 refine an ?_
 refine xw_seq ?_
 refine reg ?_
 refine rki [] 4 0 [29, 27, 5, 4, 3, 2] [1, 0] [True, True] ⟨trivial, trivial, trivial⟩ ?_
 refine pc (eqops lf ‹_› (by omega)) ?_
 refine rki [] 5 5 [35, 33, 31, 5, 4, 3, 2] [1, 0] [True, True] ⟨trivial, trivial, trivial⟩ ?_
 refine pc (eqans dn ‹_› (by omega)) ?_
 refine rk [] 2 11 ⟨[(6, .t), (5, .t), (4, .f), (3, .p 1), (2, .p 0)], [(1, .cells [.sl false 1 (m64 st), .i b0, .i b1, .sl false 2 (List.map entS lg), .sl false 8 (List.map opS lf), .sl false 2 (List.map entS pd), .bool wt, .sl false 3 (List.map ansS dn)] 44), (0, .cells [.sl false 1 (m64 st), .i b0, .i b1, .sl false 2 (List.map entS lg), .sl false 8 (List.map opS lf), .sl false 2 (List.map entS pd), .bool wt, .sl false 3 (List.map ansS dn)] 44)], 2⟩ [True] ⟨trivial, trivial⟩ ?_
 refine en ?_
 refine an ?_
 refine rgi [(9, .t), (16, .t)] 19 [4] [] [True, True, True, ((b0 == b0) && ((b1 == b1) && true)) = true, True, True, True, (wt == wt) = true, True] ⟨trivial, trivial, trivial, (by first | (simp <;> omega) | (simp only [Bool.not_eq_eq_eq_not, Bool.not_true, Bool.not_false, Bool.and_eq_true, beq_iff_eq, and_true]; and_intros <;> first | omega | assumption)), trivial, trivial, trivial, (by simp), trivial, trivial⟩ ?_
 refine xw_ret ?_
 exact bs (.t) rfl

theorem eqheap (W : Int) (xs ys : List Int) (f0 f1 f2 t0 t1 t2 sz lm : Int) (ts : List Th) (ph scn fl : Int) (os : List Int) (brk : Int) (hp0 : -9223372036854775808 ≤ W ∧ W ≤ 9223372036854775807) (hp1 : U64s xs) (hp2 : U64s ys) (hp3 : -9223372036854775808 ≤ f0 ∧ f0 ≤ 9223372036854775807) (hp4 : -9223372036854775808 ≤ f1 ∧ f1 ≤ 9223372036854775807) (hp5 : -9223372036854775808 ≤ f2 ∧ f2 ≤ 9223372036854775807) (hp6 : -9223372036854775808 ≤ t0 ∧ t0 ≤ 9223372036854775807) (hp7 : -9223372036854775808 ≤ t1 ∧ t1 ≤ 9223372036854775807) (hp8 : -9223372036854775808 ≤ t2 ∧ t2 ≤ 9223372036854775807) (hp9 : -9223372036854775808 ≤ sz ∧ sz ≤ 9223372036854775807) (hp10 : -9223372036854775808 ≤ lm ∧ lm ≤ 9223372036854775807) (hp11 : Ths ts) (hp12 : (ts.length : Int) * 144 ≤ 140737488355000) (hp13 : -9223372036854775808 ≤ ph ∧ ph ≤ 9223372036854775807) (hp14 : -9223372036854775808 ≤ scn ∧ scn ≤ 9223372036854775807) (hp15 : -9223372036854775808 ≤ fl ∧ fl ≤ 9223372036854775807) (hp16 : I64s os) (hp17 : (os.length : Int) * 8 ≤ 140737488355000) (hp18 : -9223372036854775808 ≤ brk ∧ brk ≤ 9223372036854775807) (hp19 : (xs.length : Int) ≤ 1000000) (hp20 : (ys.length : Int) ≤ 1000000) : Pub Try.prog 13 [.agg (mr W xs ys [.i f0, .i f1, .i f2, .i t0, .i t1, .i t2, .i sz, .i lm, .sl false 8 (List.map thS ts), .i ph, .i scn, .i fl, .sl false 1 (List.map (SV.int .i64) os), .i brk]), .agg (mr W xs ys [.i f0, .i f1, .i f2, .i t0, .i t1, .i t2, .i sz, .i lm, .sl false 8 (List.map thS ts), .i ph, .i scn, .i fl, .sl false 1 (List.map (SV.int .i64) os), .i brk])] (fun rv => rv = .t) := by
 refine pub_of TT_ok Try.func13 rfl (by decide) (Nat.le_of_ble_eq_true (by kernel_rfl)) (by kernel_rfl) ?_
 refine rgi [] 3 [4, 3, 2] [1, 0] [] trivial ?_
 refine xw_seq ?_
 refine reg ?_
 refine rki [] 4 0 [12, 10, 4, 3, 2] [1, 0] [True, True] ⟨trivial, trivial, trivial⟩ ?_
 refine pc (rsame_1 W xs ys W xs ys ‹_› ‹_› ‹_› ‹_› ‹_› ‹_› ‹_› ‹_› ‹_› ‹_› ⟨rfl, rfl, rfl⟩) ?_
 refine rki [] 1 5 [5, 4, 3, 2] [1, 0] [] trivial ?_
 refine en ?_
 refine an ?_
 refine xw_seq ?_
 refine reg ?_
 refine rk [] 4 0 ⟨[(17, .sl false 1 (List.map (SV.int .i64) os)), (15, .sl false 1 (List.map (SV.int .i64) os)), (5, .t), (4, .f), (3, .p 1), (2, .p 0)], [(1, .cells (mr W xs ys [.i f0, .i f1, .i f2, .i t0, .i t1, .i t2, .i sz, .i lm, .sl false 8 (List.map thS ts), .i ph, .i scn, .i fl, .sl false 1 (List.map (SV.int .i64) os), .i brk]) 32), (0, .cells (mr W xs ys [.i f0, .i f1, .i f2, .i t0, .i t1, .i t2, .i sz, .i lm, .sl false 8 (List.map thS ts), .i ph, .i scn, .i fl, .sl false 1 (List.map (SV.int .i64) os), .i brk]) 32)], 2⟩ [True, True] ⟨trivial, trivial, trivial⟩ ?_
 refine pc (eqints os ‹_› (by omega)) ?_
 refine rki [] 1 5 [6, 5, 4, 3, 2] [1, 0] [] trivial ?_
 refine en ?_
 refine an ?_
 refine xw_seq ?_
 refine rgi [(9, .i ((ts).length : Int)), (12, .i ((ts).length : Int)), (13, .f)] 15 [33, 4, 3, 2] [1, 0] [True, True, ((((List.map thS ts)).length : Nat) : Int) = ((ts).length : Int), True, ((((List.map thS ts)).length : Nat) : Int) = ((ts).length : Int), (((ts).length : Int) != ((ts).length : Int)) = false, True] ⟨trivial, trivial, (by simp), trivial, (by simp), bne_eq_false_iff_eq.2 (by omega), trivial, trivial⟩ ?_
 refine cf ?_
 refine xw_skip ?_
 refine an ?_
 refine xw_seq ?_
 refine rgi [] 1 [7, 4, 3, 2] [1, 0] [] trivial ?_
 refine xw_block ?_
 refine xw_loop (α := {q : Int // (0 ≤ q) ∧ (q ≤ (ts.length : Int))}) (fun p => ⟨[(7, .i p.1), (4, .f), (3, .p 1), (2, .p 0)], [(1, .cells (mr W xs ys [.i f0, .i f1, .i f2, .i t0, .i t1, .i t2, .i sz, .i lm, .sl false 8 (List.map thS ts), .i ph, .i scn, .i fl, .sl false 1 (List.map (SV.int .i64) os), .i brk]) 32), (0, .cells (mr W xs ys [.i f0, .i f1, .i f2, .i t0, .i t1, .i t2, .i sz, .i lm, .sl false 8 (List.map thS ts), .i ph, .i scn, .i fl, .sl false 1 (List.map (SV.int .i64) os), .i brk]) 32)], 2⟩) (fun p => ((ts.length : Int) - p.1).toNat) ⟨0, ⟨(by omega), (by omega)⟩⟩ (le_of [] [(0 : Int) = 0, false = false, (W : Int) = W, (false = true → false = true), ((m64 xs) : List SV) = (m64 xs), (false = true → false = true), ((m64 ys) : List SV) = (m64 ys), (f0 : Int) = f0, (f1 : Int) = f1, (f2 : Int) = f2, (t0 : Int) = t0, (t1 : Int) = t1, (t2 : Int) = t2, (sz : Int) = sz, (lm : Int) = lm, (false = true → false = true), ((List.map thS ts) : List SV) = (List.map thS ts), (ph : Int) = ph, (scn : Int) = scn, (fl : Int) = fl, (false = true → false = true), ((List.map (SV.int .i64) os) : List SV) = (List.map (SV.int .i64) os), (brk : Int) = brk, (W : Int) = W, (false = true → false = true), ((m64 xs) : List SV) = (m64 xs), (false = true → false = true), ((m64 ys) : List SV) = (m64 ys), (f0 : Int) = f0, (f1 : Int) = f1, (f2 : Int) = f2, (t0 : Int) = t0, (t1 : Int) = t1, (t2 : Int) = t2, (sz : Int) = sz, (lm : Int) = lm, (false = true → false = true), ((List.map thS ts) : List SV) = (List.map thS ts), (ph : Int) = ph, (scn : Int) = scn, (fl : Int) = fl, (false = true → false = true), ((List.map (SV.int .i64) os) : List SV) = (List.map (SV.int .i64) os), (brk : Int) = brk] (by kernel_rfl) ⟨rfl, rfl, rfl, id, rfl, id, rfl, rfl, rfl, rfl, rfl, rfl, rfl, rfl, rfl, id, rfl, rfl, rfl, rfl, id, rfl, rfl, rfl, id, rfl, id, rfl, rfl, rfl, rfl, rfl, rfl, rfl, rfl, rfl, id, rfl, rfl, rfl, rfl, id, rfl, rfl, trivial⟩) ?_
 rintro ⟨i1, h0, h1⟩
 show XW _ _ _ _ _ _ ⟨[(7, .int .i64 i1), (4, .bool false), (3, .loc 1 0), (2, .loc 0 0)], [(1, .cells (mr W xs ys [.int .i64 f0, .int .i64 f1, .int .i64 f2, .int .i64 t0, .int .i64 t1, .int .i64 t2, .int .i64 sz, .int .i64 lm, .sl false 8 (List.map thS ts), .int .i64 ph, .int .i64 scn, .int .i64 fl, .sl false 1 (List.map (SV.int .i64) os), .int .i64 brk]) 32), (0, .cells (mr W xs ys [.int .i64 f0, .int .i64 f1, .int .i64 f2, .int .i64 t0, .int .i64 t1, .int .i64 t2, .int .i64 sz, .int .i64 lm, .sl false 8 (List.map thS ts), .int .i64 ph, .int .i64 scn, .int .i64 fl, .sl false 1 (List.map (SV.int .i64) os), .int .i64 brk]) 32)], 2⟩
 refine xw_seq ?_
 refine rgi [(3, .i ((ts).length : Int)), (4, .bool (decide (i1 < ((ts).length : Int))))] 5 [38, 7, 4, 3, 2] [1, 0] [True, ((((List.map thS ts)).length : Nat) : Int) = ((ts).length : Int), sm (decide (i1 < ((ts).length : Int)))] ⟨trivial, (by simp), rfl, trivial⟩ ?_
 refine xw_cond (b := (decide (i1 < ((ts).length : Int)))) (by kernel_rfl) (fun h2 => ?_) (fun h2 => ?_)
 ·
  replace h2 : i1 < (ts.length : Int) := of_decide_eq_true h2
  refine xw_skip ?_
  refine an ?_
  refine xw_seq ?_
  refine xw_block ?_
  refine xw_seq ?_
  refine dregk hmix (by kernel_rfl) ?_
  refine qri [(3, .agg [.sl false 1 (m64 (Th.st (thA ts i1))), .i (Th.b0 (thA ts i1)), .i (Th.b1 (thA ts i1)), .sl false 2 (List.map entS (Th.lg (thA ts i1))), .sl false 8 (List.map opS (Th.lf (thA ts i1))), .sl false 2 (List.map entS (Th.pd (thA ts i1))), .bool (Th.wt (thA ts i1)), .sl false 3 (List.map ansS (Th.dn (thA ts i1)))])] 4 0 [True, (0 : Int) ≤ i1 ∧ i1 < ((((List.map thS ts)).length : Nat) : Int) ∧ ((List.map thS ts))[(i1 : Int).toNat]? = some (.agg [.sl false 1 (m64 (Th.st (thA ts i1))), .i (Th.b0 (thA ts i1)), .i (Th.b1 (thA ts i1)), .sl false 2 (List.map entS (Th.lg (thA ts i1))), .sl false 8 (List.map opS (Th.lf (thA ts i1))), .sl false 2 (List.map entS (Th.pd (thA ts i1))), .bool (Th.wt (thA ts i1)), .sl false 3 (List.map ansS (Th.dn (thA ts i1)))])] ⟨trivial, (ix_th (by omega) (by first | omega | (simp only [len_st]; omega) | (simp; done) | (simp; omega) | (simp [len_st, len_stx, len_sty, len_zx, len_zy]; omega))), trivial⟩ ?_
  have h3 : U64s (Th.st (thA ts i1)) := (Ths.at (by first | assumption | exact U64s.st (by assumption) _ (by omega)) _).1
  have h4 : ((Th.st (thA ts i1)).length : Int) * 8 ≤ 140737488355000 := (Ths.at (by first | assumption | exact U64s.st (by assumption) _ (by omega)) _).2.1
  have h5 : (-9223372036854775808 ≤ (Th.b0 (thA ts i1)) ∧ (Th.b0 (thA ts i1)) ≤ 9223372036854775807) := (Ths.at (by first | assumption | exact U64s.st (by assumption) _ (by omega)) _).2.2.1
  have h6 : (-9223372036854775808 ≤ (Th.b1 (thA ts i1)) ∧ (Th.b1 (thA ts i1)) ≤ 9223372036854775807) := (Ths.at (by first | assumption | exact U64s.st (by assumption) _ (by omega)) _).2.2.2.1
  have h7 : Ents (Th.lg (thA ts i1)) := (Ths.at (by first | assumption | exact U64s.st (by assumption) _ (by omega)) _).2.2.2.2.1
  have h8 : ((Th.lg (thA ts i1)).length : Int) * 16 ≤ 140737488355000 := (Ths.at (by first | assumption | exact U64s.st (by assumption) _ (by omega)) _).2.2.2.2.2.1
  have h9 : Ops (Th.lf (thA ts i1)) := (Ths.at (by first | assumption | exact U64s.st (by assumption) _ (by omega)) _).2.2.2.2.2.2.1
  have h10 : ((Th.lf (thA ts i1)).length : Int) * 64 ≤ 140737488355000 := (Ths.at (by first | assumption | exact U64s.st (by assumption) _ (by omega)) _).2.2.2.2.2.2.2.1
  have h11 : Ents (Th.pd (thA ts i1)) := (Ths.at (by first | assumption | exact U64s.st (by assumption) _ (by omega)) _).2.2.2.2.2.2.2.2.1
  have h12 : ((Th.pd (thA ts i1)).length : Int) * 16 ≤ 140737488355000 := (Ths.at (by first | assumption | exact U64s.st (by assumption) _ (by omega)) _).2.2.2.2.2.2.2.2.2.1
  have h13 : Anss (Th.dn (thA ts i1)) := (Ths.at (by first | assumption | exact U64s.st (by assumption) _ (by omega)) _).2.2.2.2.2.2.2.2.2.2.1
  have h14 : ((Th.dn (thA ts i1)).length : Int) * 24 ≤ 140737488355000 := (Ths.at (by first | assumption | exact U64s.st (by assumption) _ (by omega)) _).2.2.2.2.2.2.2.2.2.2.2
  refine qri [(8, .agg [.sl false 1 (m64 (Th.st (thA ts i1))), .i (Th.b0 (thA ts i1)), .i (Th.b1 (thA ts i1)), .sl false 2 (List.map entS (Th.lg (thA ts i1))), .sl false 8 (List.map opS (Th.lf (thA ts i1))), .sl false 2 (List.map entS (Th.pd (thA ts i1))), .bool (Th.wt (thA ts i1)), .sl false 3 (List.map ansS (Th.dn (thA ts i1)))])] 5 4 [True, True, (0 : Int) ≤ i1 ∧ i1 < ((((List.map thS ts)).length : Nat) : Int) ∧ ((List.map thS ts))[(i1 : Int).toNat]? = some (.agg [.sl false 1 (m64 (Th.st (thA ts i1))), .i (Th.b0 (thA ts i1)), .i (Th.b1 (thA ts i1)), .sl false 2 (List.map entS (Th.lg (thA ts i1))), .sl false 8 (List.map opS (Th.lf (thA ts i1))), .sl false 2 (List.map entS (Th.pd (thA ts i1))), .bool (Th.wt (thA ts i1)), .sl false 3 (List.map ansS (Th.dn (thA ts i1)))])] ⟨trivial, trivial, (ix_th (by omega) (by first | omega | (simp only [len_st]; omega) | (simp; done) | (simp; omega) | (simp [len_st, len_stx, len_sty, len_zx, len_zy]; omega))), trivial⟩ ?_
  have h15 : U64s (Th.st (thA ts i1)) := (Ths.at (by first | assumption | exact U64s.st (by assumption) _ (by omega)) _).1
  have h16 : ((Th.st (thA ts i1)).length : Int) * 8 ≤ 140737488355000 := (Ths.at (by first | assumption | exact U64s.st (by assumption) _ (by omega)) _).2.1
  have h17 : (-9223372036854775808 ≤ (Th.b0 (thA ts i1)) ∧ (Th.b0 (thA ts i1)) ≤ 9223372036854775807) := (Ths.at (by first | assumption | exact U64s.st (by assumption) _ (by omega)) _).2.2.1
  have h18 : (-9223372036854775808 ≤ (Th.b1 (thA ts i1)) ∧ (Th.b1 (thA ts i1)) ≤ 9223372036854775807) := (Ths.at (by first | assumption | exact U64s.st (by assumption) _ (by omega)) _).2.2.2.1
  have h19 : Ents (Th.lg (thA ts i1)) := (Ths.at (by first | assumption | exact U64s.st (by assumption) _ (by omega)) _).2.2.2.2.1
  have h20 : ((Th.lg (thA ts i1)).length : Int) * 16 ≤ 140737488355000 := (Ths.at (by first | assumption | exact U64s.st (by assumption) _ (by omega)) _).2.2.2.2.2.1
  have h21 : Ops (Th.lf (thA ts i1)) := (Ths.at (by first | assumption | exact U64s.st (by assumption) _ (by omega)) _).2.2.2.2.2.2.1
  have h22 : ((Th.lf (thA ts i1)).length : Int) * 64 ≤ 140737488355000 := (Ths.at (by first | assumption | exact U64s.st (by assumption) _ (by omega)) _).2.2.2.2.2.2.2.1
  have h23 : Ents (Th.pd (thA ts i1)) := (Ths.at (by first | assumption | exact U64s.st (by assumption) _ (by omega)) _).2.2.2.2.2.2.2.2.1
  have h24 : ((Th.pd (thA ts i1)).length : Int) * 16 ≤ 140737488355000 := (Ths.at (by first | assumption | exact U64s.st (by assumption) _ (by omega)) _).2.2.2.2.2.2.2.2.2.1
  have h25 : Anss (Th.dn (thA ts i1)) := (Ths.at (by first | assumption | exact U64s.st (by assumption) _ (by omega)) _).2.2.2.2.2.2.2.2.2.2.1
  have h26 : ((Th.dn (thA ts i1)).length : Int) * 24 ≤ 140737488355000 := (Ths.at (by first | assumption | exact U64s.st (by assumption) _ (by omega)) _).2.2.2.2.2.2.2.2.2.2.2
  refine qri [] 1 9 [True] ⟨trivial, trivial⟩ ?_
  refine qc (eqthread (Th.st (thA ts i1)) (Th.b0 (thA ts i1)) (Th.b1 (thA ts i1)) (Th.lg (thA ts i1)) (Th.lf (thA ts i1)) (Th.pd (thA ts i1)) (Th.wt (thA ts i1)) (Th.dn (thA ts i1)) ‹_› (by omega) ‹_› ‹_› ‹_› (by omega) ‹_› (by omega) ‹_› (by omega) ‹_› (by omega)) ?_
  refine qri [] 1 11 [] trivial ?_
  refine qen ?_
  refine an ?_
  refine rg [] 2 ⟨[(53, .f), (7, .i i1), (4, .f), (3, .p 1), (2, .p 0)], [(1, .cells (mr W xs ys [.i f0, .i f1, .i f2, .i t0, .i t1, .i t2, .i sz, .i lm, .sl false 8 (List.map thS ts), .i ph, .i scn, .i fl, .sl false 1 (List.map (SV.int .i64) os), .i brk]) 32), (0, .cells (mr W xs ys [.i f0, .i f1, .i f2, .i t0, .i t1, .i t2, .i sz, .i lm, .sl false 8 (List.map thS ts), .i ph, .i scn, .i fl, .sl false 1 (List.map (SV.int .i64) os), .i brk]) 32)], 2⟩ [] trivial ?_
  refine cf ?_
  refine xw_skip ?_
  refine ib ?_
  refine an ?_
  refine rei [(1, .i (i1 + 1))] 3 [7, 4, 3, 2] [1, 0] [IntKind.i64.wrap (i1 + 1) = (i1 + 1)] ⟨i64_eq (by omega) (by omega), trivial⟩ ?_
  exact ag ⟨(i1 + 1), ⟨(by omega), (by omega)⟩⟩ (le_of [] [((i1 + 1) : Int) = (i1 + 1), false = false, (W : Int) = W, (false = true → false = true), ((m64 xs) : List SV) = (m64 xs), (false = true → false = true), ((m64 ys) : List SV) = (m64 ys), (f0 : Int) = f0, (f1 : Int) = f1, (f2 : Int) = f2, (t0 : Int) = t0, (t1 : Int) = t1, (t2 : Int) = t2, (sz : Int) = sz, (lm : Int) = lm, (false = true → false = true), ((List.map thS ts) : List SV) = (List.map thS ts), (ph : Int) = ph, (scn : Int) = scn, (fl : Int) = fl, (false = true → false = true), ((List.map (SV.int .i64) os) : List SV) = (List.map (SV.int .i64) os), (brk : Int) = brk, (W : Int) = W, (false = true → false = true), ((m64 xs) : List SV) = (m64 xs), (false = true → false = true), ((m64 ys) : List SV) = (m64 ys), (f0 : Int) = f0, (f1 : Int) = f1, (f2 : Int) = f2, (t0 : Int) = t0, (t1 : Int) = t1, (t2 : Int) = t2, (sz : Int) = sz, (lm : Int) = lm, (false = true → false = true), ((List.map thS ts) : List SV) = (List.map thS ts), (ph : Int) = ph, (scn : Int) = scn, (fl : Int) = fl, (false = true → false = true), ((List.map (SV.int .i64) os) : List SV) = (List.map (SV.int .i64) os), (brk : Int) = brk] (by kernel_rfl) ⟨rfl, rfl, rfl, id, rfl, id, rfl, rfl, rfl, rfl, rfl, rfl, rfl, rfl, rfl, id, rfl, rfl, rfl, rfl, id, rfl, rfl, rfl, id, rfl, id, rfl, rfl, rfl, rfl, rfl, rfl, rfl, rfl, rfl, id, rfl, rfl, rfl, rfl, id, rfl, rfl, trivial⟩) (by show ((ts.length : Int) - (i1 + 1)).toNat < ((ts.length : Int) - i1).toNat; omega)
 ·
  replace h2 : ¬ (i1 < (ts.length : Int)) := of_decide_eq_false h2
  refine xw_exit ?_
  refine an_exit ?_
  refine ag_exit ?_
  refine ib_same ?_
  refine an ?_
  refine rgi [(4, .t), (10, .t), (17, .t), (24, .t), (31, .t), (38, .t), (45, .t), (52, .t)] 55 [4] [] [True, True, ((f0 == f0) && ((f1 == f1) && ((f2 == f2) && true))) = true, True, True, ((t0 == t0) && ((t1 == t1) && ((t2 == t2) && true))) = true, True, True, True, (sz == sz) = true, True, True, True, (lm == lm) = true, True, True, True, (ph == ph) = true, True, True, True, (scn == scn) = true, True, True, True, (fl == fl) = true, True, True, True, (brk == brk) = true, True] ⟨trivial, trivial, (by first | (simp <;> omega) | (simp only [Bool.not_eq_eq_eq_not, Bool.not_true, Bool.not_false, Bool.and_eq_true, beq_iff_eq, and_true]; and_intros <;> first | omega | assumption)), trivial, trivial, (by first | (simp <;> omega) | (simp only [Bool.not_eq_eq_eq_not, Bool.not_true, Bool.not_false, Bool.and_eq_true, beq_iff_eq, and_true]; and_intros <;> first | omega | assumption)), trivial, trivial, trivial, beq_iff_eq.2 (by omega), trivial, trivial, trivial, beq_iff_eq.2 (by omega), trivial, trivial, trivial, beq_iff_eq.2 (by omega), trivial, trivial, trivial, beq_iff_eq.2 (by omega), trivial, trivial, trivial, beq_iff_eq.2 (by omega), trivial, trivial, trivial, beq_iff_eq.2 (by omega), trivial, trivial⟩ ?_
  refine xw_ret ?_
  exact bs (.t) rfl

theorem eqheap2 (W : Int) (xs ys : List Int) (f0 f1 f2 t0 t1 t2 sz lm : Int) (ts : List Th) (ph scn fl : Int) (os : List Int) (brk : Int) (us : List Th) (hp0 : EqT ts us) (hp1 : -9223372036854775808 ≤ W ∧ W ≤ 9223372036854775807) (hp2 : U64s xs) (hp3 : U64s ys) (hp4 : -9223372036854775808 ≤ f0 ∧ f0 ≤ 9223372036854775807) (hp5 : -9223372036854775808 ≤ f1 ∧ f1 ≤ 9223372036854775807) (hp6 : -9223372036854775808 ≤ f2 ∧ f2 ≤ 9223372036854775807) (hp7 : -9223372036854775808 ≤ t0 ∧ t0 ≤ 9223372036854775807) (hp8 : -9223372036854775808 ≤ t1 ∧ t1 ≤ 9223372036854775807) (hp9 : -9223372036854775808 ≤ t2 ∧ t2 ≤ 9223372036854775807) (hp10 : -9223372036854775808 ≤ sz ∧ sz ≤ 9223372036854775807) (hp11 : -9223372036854775808 ≤ lm ∧ lm ≤ 9223372036854775807) (hp12 : Ths ts) (hp13 : (ts.length : Int) * 144 ≤ 140737488355000) (hp14 : -9223372036854775808 ≤ ph ∧ ph ≤ 9223372036854775807) (hp15 : -9223372036854775808 ≤ scn ∧ scn ≤ 9223372036854775807) (hp16 : -9223372036854775808 ≤ fl ∧ fl ≤ 9223372036854775807) (hp17 : I64s os) (hp18 : (os.length : Int) * 8 ≤ 140737488355000) (hp19 : -9223372036854775808 ≤ brk ∧ brk ≤ 9223372036854775807) (hp20 : (xs.length : Int) ≤ 1000000) (hp21 : (ys.length : Int) ≤ 1000000) : Pub Try.prog 13 [.agg (mr W xs ys [.i f0, .i f1, .i f2, .i t0, .i t1, .i t2, .i sz, .i lm, .sl false 8 (List.map thS ts), .i ph, .i scn, .i fl, .sl false 1 (List.map (SV.int .i64) os), .i brk]), .agg (mr W xs ys [.i f0, .i f1, .i f2, .i t0, .i t1, .i t2, .i sz, .i lm, .sl false 8 (List.map thS us), .i ph, .i scn, .i fl, .sl false 1 (List.map (SV.int .i64) os), .i brk])] (fun rv => rv = .t) := by
  unfold EqT at hp0; subst hp0; exact eqheap W xs ys f0 f1 f2 t0 t1 t2 sz lm ts ph scn fl os brk hp1 hp2 hp3 hp4 hp5 hp6 hp7 hp8 hp9 hp10 hp11 hp12 hp13 hp14 hp15 hp16 hp17 hp18 hp19 hp20 hp21

end Go.Proofs.Ytjchmajamlehmaa.X
