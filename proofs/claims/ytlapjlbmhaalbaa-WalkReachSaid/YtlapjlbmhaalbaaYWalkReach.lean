/- Contracts of Go functions: what each returns, for every input that its premises name; no memory of the caller is touched. Printed by a program. -/
import Derived.Test.YtlapjlbmhaalbaaXh3
import Derived.Test.YtlapjlbmhaalbaaXh4
namespace Go.Proofs.Ytlapjlbmhaalbaa.X
open Go Go.RowKit
set_option linter.unusedVariables false      -- a premise may serve only to tell which way is taken
set_option linter.unusedSimpArgs false
set_option maxHeartbeats 8000000 in
theorem walkReach (W : Int) (xs ys l : List Int) (hp0 : -9223372036854775808 ≤ W ∧ W ≤ 9223372036854775807) (hp1 : U64s xs) (hp2 : U64s ys) (hp3 : U64s l) : Pub Try.prog 4 [.agg (mm W xs ys), .sl false 1 (m64 l)] (fun rv => rv = .t) := by
 refine pub_of TT_ok Try.func4 rfl (by decide) (Nat.le_of_ble_eq_true (by kernel_rfl)) (by kernel_rfl) ?_
 refine rg [] 2 ⟨[(4, .f), (2, .p 0), (1, .sl false 1 (m64 l))], [(0, .cells (mm W xs ys) 25)], 1⟩ [] trivial ?_
 refine xw_seq ?_
 refine reg ?_
 refine pc (shown6 ) ?_
 refine rk [] 1 1 ⟨[(5, .t), (4, .f), (2, .p 0), (1, .sl false 1 (m64 l))], [(0, .cells (mm W xs ys) 25)], 1⟩ [] trivial ?_
 refine en ?_
 refine an ?_
 refine xw_seq ?_
 refine reg ?_
 refine rk [] 1 0 ⟨[(20, .agg (mm W xs ys)), (5, .t), (4, .f), (2, .p 0), (1, .sl false 1 (m64 l))], [(0, .cells (mm W xs ys) 25)], 1⟩ [True] ⟨trivial, trivial⟩ ?_
 by_cases h0 : 16 ≤ W ∧ W ≤ 200 ∧ (xs.length : Int) = W ∧ (ys.length : Int) = W
 ·
  refine pc (few6_1 W xs ys ‹_› ‹_›) ?_
  refine rk [] 1 2 ⟨[(6, .t), (5, .t), (4, .f), (2, .p 0), (1, .sl false 1 (m64 l))], [(0, .cells (mm W xs ys) 25)], 1⟩ [] trivial ?_
  refine en ?_
  refine an ?_
  refine xw_seq ?_
  refine rg [(4, .i ((l).length : Int)), (5, .bool (decide (40 < ((l).length : Int))))] 7 ⟨[(28, .bool (decide (40 < ((l).length : Int)))), (5, .t), (4, .f), (2, .p 0), (1, .sl false 1 (m64 l))], [(0, .cells (mm W xs ys) 25)], 1⟩ [((((m64 l)).length : Nat) : Int) = ((l).length : Int), (decide (40 < ((l).length : Int))) = (decide (40 < ((l).length : Int))), True] ⟨(by simp), rfl, trivial, trivial⟩ ?_
  refine xw_cond (b := (decide (40 < ((l).length : Int)))) (by kernel_rfl) (fun h1 => ?_) (fun h1 => ?_)
  ·
   replace h1 : 40 < (l.length : Int) := of_decide_eq_true h1
   refine rg [] 2 ⟨[(4, .t), (5, .t), (2, .p 0), (1, .sl false 1 (m64 l))], [(0, .cells (mm W xs ys) 25)], 1⟩ [] trivial ?_
   refine xw_ret ?_
   refine an_ret ?_
   exact bs (.t) rfl
  ·
   replace h1 : ¬ (40 < (l.length : Int)) := of_decide_eq_false h1
   refine xw_skip ?_
   refine an ?_
   refine xw_seq ?_
   refine reg ?_
   refine rk [] 2 0 ⟨[(31, .sl false 1 (m64 l)), (30, .agg (mm W xs ys)), (5, .t), (4, .f), (2, .p 0), (1, .sl false 1 (m64 l))], [(0, .cells (mm W xs ys) 25)], 1⟩ [True] ⟨trivial, trivial⟩ ?_
   refine pc (wreach W xs ys l (by omega) (by omega) (by omega) ‹_› ‹_› ‹_› (by omega)) ?_
   obtain ⟨h2, h3⟩ := rch_okx W xs ys l (by omega)
   refine rk [] 1 3 ⟨[(7, .sl false 1 (m64 (rch W xs ys l))), (5, .t), (4, .f), (2, .p 0), (1, .sl false 1 (m64 l))], [(0, .cells (mm W xs ys) 25)], 1⟩ [] trivial ?_
   refine en ?_
   refine an ?_
   refine xw_seq ?_
   refine rg [] 1 ⟨[(8, .i 0), (7, .sl false 1 (m64 (rch W xs ys l))), (5, .t), (4, .f), (2, .p 0), (1, .sl false 1 (m64 l))], [(0, .cells (mm W xs ys) 25)], 1⟩ [] trivial ?_
   refine xw_block ?_
   refine xw_loop (α := {q : Int // (0 ≤ q) ∧ (q ≤ ((rch W xs ys l).length : Int))}) (fun p => ⟨[(8, .i p.1), (7, .sl false 1 (m64 (rch W xs ys l))), (5, .t), (4, .f), (2, .p 0), (1, .sl false 1 (m64 l))], [(0, .cells (mm W xs ys) 25)], 1⟩) (fun p => (((rch W xs ys l).length : Int) - p.1).toNat) ⟨0, ⟨(by omega), (by omega)⟩⟩ (le_of [] [(0 : Int) = 0, (false = true → false = true), ((m64 (rch W xs ys l)) : List SV) = (m64 (rch W xs ys l)), true = true, false = false, (false = true → false = true), ((m64 l) : List SV) = (m64 l), (W : Int) = W, (false = true → false = true), ((m64 xs) : List SV) = (m64 xs), (false = true → false = true), ((m64 ys) : List SV) = (m64 ys)] (by kernel_rfl) ⟨rfl, id, rfl, rfl, rfl, id, rfl, rfl, id, rfl, id, rfl, trivial⟩) ?_
   rintro ⟨i1, h4, h5⟩
   show XW _ _ _ _ _ _ ⟨[(8, .int .i64 i1), (7, .sl false 1 (m64 (rch W xs ys l))), (5, .bool true), (4, .bool false), (2, .loc 0 0), (1, .sl false 1 (m64 l))], [(0, .cells (mm W xs ys) 25)], 1⟩
   have h6 : ((rch W xs ys l).length : Int) ≤ i1 ∨ (frB W xs ys l (rch W xs ys l) i1 ((rch W xs ys l).length : Int)) = true := fr_all (by omega)
   refine xw_seq ?_
   refine rg [(2, .i (((rch W xs ys l)).length : Int)), (3, .bool (decide (i1 < (((rch W xs ys l)).length : Int))))] 4 ⟨[(36, .bool (decide (i1 < (((rch W xs ys l)).length : Int)))), (8, .i i1), (7, .sl false 1 (m64 (rch W xs ys l))), (5, .t), (4, .f), (2, .p 0), (1, .sl false 1 (m64 l))], [(0, .cells (mm W xs ys) 25)], 1⟩ [((((m64 (rch W xs ys l))).length : Nat) : Int) = (((rch W xs ys l)).length : Int), (decide (i1 < (((rch W xs ys l)).length : Int))) = (decide (i1 < (((rch W xs ys l)).length : Int)))] ⟨(by simp), rfl, trivial⟩ ?_
   refine xw_cond (b := (decide (i1 < (((rch W xs ys l)).length : Int)))) (by kernel_rfl) (fun h7 => ?_) (fun h7 => ?_)
   ·
    replace h7 : i1 < ((rch W xs ys l).length : Int) := of_decide_eq_true h7
    refine xw_skip ?_
    refine an ?_
    refine xw_seq ?_
    refine xw_block ?_
    refine xw_seq ?_
    refine reg ?_
    refine rk [(3, .u (ix (rch W xs ys l) i1))] 4 0 ⟨[(42, .elt (.u (ix (rch W xs ys l) i1))), (39, .sl false 1 (m64 l)), (8, .i i1), (7, .sl false 1 (m64 (rch W xs ys l))), (5, .t), (4, .f), (2, .p 0), (1, .sl false 1 (m64 l))], [(0, .cells (mm W xs ys) 25)], 1⟩ [(0 : Int) ≤ i1 ∧ i1 < ((((m64 (rch W xs ys l))).length : Nat) : Int) ∧ ((m64 (rch W xs ys l)))[(i1 : Int).toNat]? = some (.u (ix (rch W xs ys l) i1))] ⟨(ix_ok (by omega) (by first | omega | (simp only [len_st]; omega) | (simp; done) | (simp; omega) | (simp [len_st, len_stx, len_sty, len_zx, len_zy]; omega))), trivial⟩ ?_
    have h8 : 0 ≤ (ix (rch W xs ys l) i1) ∧ (ix (rch W xs ys l) i1) ≤ 18446744073709551615 := U64s.ix (by first | assumption | exact U64s.st (by assumption) _ (by omega)) _
    refine rk [] 1 4 ⟨[(43, .u (ix (rch W xs ys l) i1)), (39, .sl false 1 (m64 l)), (8, .i i1), (7, .sl false 1 (m64 (rch W xs ys l))), (5, .t), (4, .f), (2, .p 0), (1, .sl false 1 (m64 l))], [(0, .cells (mm W xs ys) 25)], 1⟩ [True] ⟨trivial, trivial⟩ ?_
    refine pc (rhas l (ix (rch W xs ys l) i1) ‹_› ‹_› (by omega)) ?_
    refine rk [] 1 6 ⟨[(9, .bool (hasB l (ix (rch W xs ys l) i1))), (8, .i i1), (7, .sl false 1 (m64 (rch W xs ys l))), (5, .t), (4, .f), (2, .p 0), (1, .sl false 1 (m64 l))], [(0, .cells (mm W xs ys) 25)], 1⟩ [] trivial ?_
    refine en ?_
    refine an ?_
    refine xw_seq ?_
    refine rg [] 1 ⟨[(10, .i 0), (9, .bool (hasB l (ix (rch W xs ys l) i1))), (8, .i i1), (7, .sl false 1 (m64 (rch W xs ys l))), (5, .t), (4, .f), (2, .p 0), (1, .sl false 1 (m64 l))], [(0, .cells (mm W xs ys) 25)], 1⟩ [] trivial ?_
    refine xw_block ?_
    refine xw_loop (α := {q : Int // (0 ≤ q) ∧ (q ≤ ((rch W xs ys l).length : Int))}) (fun p => ⟨[(10, .i p.1), (9, .bool (frB W xs ys l (rch W xs ys l) i1 p.1)), (8, .i i1), (7, .sl false 1 (m64 (rch W xs ys l))), (5, .t), (4, .f), (2, .p 0), (1, .sl false 1 (m64 l))], [(0, .cells (mm W xs ys) 25)], 1⟩) (fun p => (((rch W xs ys l).length : Int) - p.1).toNat) ⟨0, ⟨(by omega), (by omega)⟩⟩ (le_of [] [(0 : Int) = 0, (hasB l (ix (rch W xs ys l) i1)) = (frB W xs ys l (rch W xs ys l) i1 0), (i1 : Int) = i1, (false = true → false = true), ((m64 (rch W xs ys l)) : List SV) = (m64 (rch W xs ys l)), true = true, false = false, (false = true → false = true), ((m64 l) : List SV) = (m64 l), (W : Int) = W, (false = true → false = true), ((m64 xs) : List SV) = (m64 xs), (false = true → false = true), ((m64 ys) : List SV) = (m64 ys)] (by kernel_rfl) ⟨rfl, (by first | exact fr_0 | exact fr_yes (by omega) (by omega) ‹_› | exact fr_no (by omega) (by omega) ‹_› | rfl), rfl, id, rfl, rfl, rfl, id, rfl, rfl, id, rfl, id, rfl, trivial⟩) ?_
    rintro ⟨k1, h9, h10⟩
    show XW _ _ _ _ _ _ ⟨[(10, .int .i64 k1), (9, .bool (frB W xs ys l (rch W xs ys l) i1 k1)), (8, .int .i64 i1), (7, .sl false 1 (m64 (rch W xs ys l))), (5, .bool true), (4, .bool false), (2, .loc 0 0), (1, .sl false 1 (m64 l))], [(0, .cells (mm W xs ys) 25)], 1⟩
    have h11 : ((rch W xs ys l).length : Int) ≤ k1 ∨ k1 = i1 ∨ (ix (rch W xs ys l) k1) ≠ (ix (rch W xs ys l) i1) := once_ix (by omega) (by omega) (by omega)
    refine xw_seq ?_
    refine rg [(2, .i (((rch W xs ys l)).length : Int)), (3, .bool (decide (k1 < (((rch W xs ys l)).length : Int))))] 4 ⟨[(48, .bool (decide (k1 < (((rch W xs ys l)).length : Int)))), (10, .i k1), (9, .bool (frB W xs ys l (rch W xs ys l) i1 k1)), (8, .i i1), (7, .sl false 1 (m64 (rch W xs ys l))), (5, .t), (4, .f), (2, .p 0), (1, .sl false 1 (m64 l))], [(0, .cells (mm W xs ys) 25)], 1⟩ [((((m64 (rch W xs ys l))).length : Nat) : Int) = (((rch W xs ys l)).length : Int), (decide (k1 < (((rch W xs ys l)).length : Int))) = (decide (k1 < (((rch W xs ys l)).length : Int)))] ⟨(by simp), rfl, trivial⟩ ?_
    refine xw_cond (b := (decide (k1 < (((rch W xs ys l)).length : Int)))) (by kernel_rfl) (fun h12 => ?_) (fun h12 => ?_)
    ·
     replace h12 : k1 < ((rch W xs ys l).length : Int) := of_decide_eq_true h12
     refine xw_skip ?_
     refine an ?_
     refine xw_seq ?_
     refine xw_block ?_
     refine xw_seq ?_
     refine xw_seq ?_
     refine dregk hmix (by kernel_rfl) ?_
     refine qr [(2, .bool (k1 != i1))] 4 0 [(54, .bool (k1 != i1)), (53, .bool (k1 != i1)), (52, .i i1), (51, .i k1), (48, .bool (decide (k1 < (((rch W xs ys l)).length : Int)))), (10, .i k1), (9, .bool (frB W xs ys l (rch W xs ys l) i1 k1)), (8, .i i1), (7, .sl false 1 (m64 (rch W xs ys l))), (5, .t), (4, .f), (2, .p 0), (1, .sl false 1 (m64 l))] [(k1 != i1) = (k1 != i1)] ⟨rfl, trivial⟩ ?_
     refine qsplit 54 (x := (k1 != i1)) (by kernel_rfl) (fun h13 => ?_) (fun h13 => ?_)
     ·
      replace h13 : k1 ≠ i1 := bne_iff_ne.1 h13
      refine qr [(6, .u (ix (rch W xs ys l) k1))] 3 4 [(57, .elt (.u (ix (rch W xs ys l) k1))), (56, .i k1), (55, .sl false 1 (m64 (rch W xs ys l))), (54, .t), (54, .bool (k1 != i1)), (53, .bool (k1 != i1)), (52, .i i1), (51, .i k1), (48, .bool (decide (k1 < (((rch W xs ys l)).length : Int)))), (10, .i k1), (9, .bool (frB W xs ys l (rch W xs ys l) i1 k1)), (8, .i i1), (7, .sl false 1 (m64 (rch W xs ys l))), (5, .t), (4, .f), (2, .p 0), (1, .sl false 1 (m64 l))] [(0 : Int) ≤ k1 ∧ k1 < ((((m64 (rch W xs ys l))).length : Nat) : Int) ∧ ((m64 (rch W xs ys l)))[(k1 : Int).toNat]? = some (.u (ix (rch W xs ys l) k1))] ⟨(ix_ok (by omega) (by first | omega | (simp only [len_st]; omega) | (simp; done) | (simp; omega) | (simp [len_st, len_stx, len_sty, len_zx, len_zy]; omega))), trivial⟩ ?_
      have h14 : 0 ≤ (ix (rch W xs ys l) k1) ∧ (ix (rch W xs ys l) k1) ≤ 18446744073709551615 := U64s.ix (by first | assumption | exact U64s.st (by assumption) _ (by omega)) _
      refine qr [(10, .u (ix (rch W xs ys l) i1))] 4 7 [(61, .elt (.u (ix (rch W xs ys l) i1))), (60, .i i1), (59, .sl false 1 (m64 (rch W xs ys l))), (58, .u (ix (rch W xs ys l) k1)), (57, .elt (.u (ix (rch W xs ys l) k1))), (56, .i k1), (55, .sl false 1 (m64 (rch W xs ys l))), (54, .t), (54, .bool (k1 != i1)), (53, .bool (k1 != i1)), (52, .i i1), (51, .i k1), (48, .bool (decide (k1 < (((rch W xs ys l)).length : Int)))), (10, .i k1), (9, .bool (frB W xs ys l (rch W xs ys l) i1 k1)), (8, .i i1), (7, .sl false 1 (m64 (rch W xs ys l))), (5, .t), (4, .f), (2, .p 0), (1, .sl false 1 (m64 l))] [True, (0 : Int) ≤ i1 ∧ i1 < ((((m64 (rch W xs ys l))).length : Nat) : Int) ∧ ((m64 (rch W xs ys l)))[(i1 : Int).toNat]? = some (.u (ix (rch W xs ys l) i1))] ⟨trivial, (ix_ok (by omega) (by first | omega | (simp only [len_st]; omega) | (simp; done) | (simp; omega) | (simp [len_st, len_stx, len_sty, len_zx, len_zy]; omega))), trivial⟩ ?_
      have h15 : 0 ≤ (ix (rch W xs ys l) i1) ∧ (ix (rch W xs ys l) i1) ≤ 18446744073709551615 := U64s.ix (by first | assumption | exact U64s.st (by assumption) _ (by omega)) _
      refine qr [(12, .f)] 3 11 [(64, .f), (63, .f), (62, .u (ix (rch W xs ys l) i1)), (61, .elt (.u (ix (rch W xs ys l) i1))), (60, .i i1), (59, .sl false 1 (m64 (rch W xs ys l))), (58, .u (ix (rch W xs ys l) k1)), (57, .elt (.u (ix (rch W xs ys l) k1))), (56, .i k1), (55, .sl false 1 (m64 (rch W xs ys l))), (54, .t), (54, .bool (k1 != i1)), (53, .bool (k1 != i1)), (52, .i i1), (51, .i k1), (48, .bool (decide (k1 < (((rch W xs ys l)).length : Int)))), (10, .i k1), (9, .bool (frB W xs ys l (rch W xs ys l) i1 k1)), (8, .i i1), (7, .sl false 1 (m64 (rch W xs ys l))), (5, .t), (4, .f), (2, .p 0), (1, .sl false 1 (m64 l))] [True, ((ix (rch W xs ys l) k1) == (ix (rch W xs ys l) i1)) = false, True] ⟨trivial, beq_eq_false_iff_ne.2 (by omega), trivial, trivial⟩ ?_
      refine qen ?_
      refine an ?_
      refine cf ?_
      refine xw_skip ?_
      refine an ?_
      refine xw_seq ?_
      refine dregk hmix (by kernel_rfl) ?_
      refine qr [(3, .u (ix (rch W xs ys l) k1))] 4 0 [(68, .elt (.u (ix (rch W xs ys l) k1))), (67, .i k1), (66, .sl false 1 (m64 (rch W xs ys l))), (65, .agg (mm W xs ys)), (64, .f), (63, .f), (62, .u (ix (rch W xs ys l) i1)), (61, .elt (.u (ix (rch W xs ys l) i1))), (60, .i i1), (59, .sl false 1 (m64 (rch W xs ys l))), (58, .u (ix (rch W xs ys l) k1)), (57, .elt (.u (ix (rch W xs ys l) k1))), (56, .i k1), (55, .sl false 1 (m64 (rch W xs ys l))), (54, .t), (54, .bool (k1 != i1)), (53, .bool (k1 != i1)), (52, .i i1), (51, .i k1), (48, .bool (decide (k1 < (((rch W xs ys l)).length : Int)))), (10, .i k1), (9, .bool (frB W xs ys l (rch W xs ys l) i1 k1)), (8, .i i1), (7, .sl false 1 (m64 (rch W xs ys l))), (5, .t), (4, .f), (2, .p 0), (1, .sl false 1 (m64 l))] [True, (0 : Int) ≤ k1 ∧ k1 < ((((m64 (rch W xs ys l))).length : Nat) : Int) ∧ ((m64 (rch W xs ys l)))[(k1 : Int).toNat]? = some (.u (ix (rch W xs ys l) k1))] ⟨trivial, (ix_ok (by omega) (by first | omega | (simp only [len_st]; omega) | (simp; done) | (simp; omega) | (simp [len_st, len_stx, len_sty, len_zx, len_zy]; omega))), trivial⟩ ?_
      have h16 : 0 ≤ (ix (rch W xs ys l) k1) ∧ (ix (rch W xs ys l) k1) ≤ 18446744073709551615 := U64s.ix (by first | assumption | exact U64s.st (by assumption) _ (by omega)) _
      refine qr [] 1 4 [(69, .u (ix (rch W xs ys l) k1)), (68, .elt (.u (ix (rch W xs ys l) k1))), (67, .i k1), (66, .sl false 1 (m64 (rch W xs ys l))), (65, .agg (mm W xs ys)), (64, .f), (63, .f), (62, .u (ix (rch W xs ys l) i1)), (61, .elt (.u (ix (rch W xs ys l) i1))), (60, .i i1), (59, .sl false 1 (m64 (rch W xs ys l))), (58, .u (ix (rch W xs ys l) k1)), (57, .elt (.u (ix (rch W xs ys l) k1))), (56, .i k1), (55, .sl false 1 (m64 (rch W xs ys l))), (54, .t), (54, .bool (k1 != i1)), (53, .bool (k1 != i1)), (52, .i i1), (51, .i k1), (48, .bool (decide (k1 < (((rch W xs ys l)).length : Int)))), (10, .i k1), (9, .bool (frB W xs ys l (rch W xs ys l) i1 k1)), (8, .i i1), (7, .sl false 1 (m64 (rch W xs ys l))), (5, .t), (4, .f), (2, .p 0), (1, .sl false 1 (m64 l))] [True] ⟨trivial, trivial⟩ ?_
      refine qc (rptrs W xs ys (ix (rch W xs ys l) k1) (by omega) (by omega) (by omega) ‹_› ‹_› ‹_›) ?_
      have h17 : U64s (ptrs W xs ys (ix (rch W xs ys l) k1)) := ptrs_u64 ‹_› ‹_›
      have h18 : ((ptrs W xs ys (ix (rch W xs ys l) k1)).length : Int) ≤ 64 := ptrs_le
      refine qr [(8, .u (ix (rch W xs ys l) i1))] 3 6 [(73, .elt (.u (ix (rch W xs ys l) i1))), (72, .i i1), (71, .sl false 1 (m64 (rch W xs ys l))), (70, .sl false 1 (m64 (ptrs W xs ys (ix (rch W xs ys l) k1)))), (69, .u (ix (rch W xs ys l) k1)), (68, .elt (.u (ix (rch W xs ys l) k1))), (67, .i k1), (66, .sl false 1 (m64 (rch W xs ys l))), (65, .agg (mm W xs ys)), (64, .f), (63, .f), (62, .u (ix (rch W xs ys l) i1)), (61, .elt (.u (ix (rch W xs ys l) i1))), (60, .i i1), (59, .sl false 1 (m64 (rch W xs ys l))), (58, .u (ix (rch W xs ys l) k1)), (57, .elt (.u (ix (rch W xs ys l) k1))), (56, .i k1), (55, .sl false 1 (m64 (rch W xs ys l))), (54, .t), (54, .bool (k1 != i1)), (53, .bool (k1 != i1)), (52, .i i1), (51, .i k1), (48, .bool (decide (k1 < (((rch W xs ys l)).length : Int)))), (10, .i k1), (9, .bool (frB W xs ys l (rch W xs ys l) i1 k1)), (8, .i i1), (7, .sl false 1 (m64 (rch W xs ys l))), (5, .t), (4, .f), (2, .p 0), (1, .sl false 1 (m64 l))] [(0 : Int) ≤ i1 ∧ i1 < ((((m64 (rch W xs ys l))).length : Nat) : Int) ∧ ((m64 (rch W xs ys l)))[(i1 : Int).toNat]? = some (.u (ix (rch W xs ys l) i1))] ⟨(ix_ok (by omega) (by first | omega | (simp only [len_st]; omega) | (simp; done) | (simp; omega) | (simp [len_st, len_stx, len_sty, len_zx, len_zy]; omega))), trivial⟩ ?_
      have h19 : 0 ≤ (ix (rch W xs ys l) i1) ∧ (ix (rch W xs ys l) i1) ≤ 18446744073709551615 := U64s.ix (by first | assumption | exact U64s.st (by assumption) _ (by omega)) _
      refine qr [] 1 9 [(74, .u (ix (rch W xs ys l) i1)), (73, .elt (.u (ix (rch W xs ys l) i1))), (72, .i i1), (71, .sl false 1 (m64 (rch W xs ys l))), (70, .sl false 1 (m64 (ptrs W xs ys (ix (rch W xs ys l) k1)))), (69, .u (ix (rch W xs ys l) k1)), (68, .elt (.u (ix (rch W xs ys l) k1))), (67, .i k1), (66, .sl false 1 (m64 (rch W xs ys l))), (65, .agg (mm W xs ys)), (64, .f), (63, .f), (62, .u (ix (rch W xs ys l) i1)), (61, .elt (.u (ix (rch W xs ys l) i1))), (60, .i i1), (59, .sl false 1 (m64 (rch W xs ys l))), (58, .u (ix (rch W xs ys l) k1)), (57, .elt (.u (ix (rch W xs ys l) k1))), (56, .i k1), (55, .sl false 1 (m64 (rch W xs ys l))), (54, .t), (54, .bool (k1 != i1)), (53, .bool (k1 != i1)), (52, .i i1), (51, .i k1), (48, .bool (decide (k1 < (((rch W xs ys l)).length : Int)))), (10, .i k1), (9, .bool (frB W xs ys l (rch W xs ys l) i1 k1)), (8, .i i1), (7, .sl false 1 (m64 (rch W xs ys l))), (5, .t), (4, .f), (2, .p 0), (1, .sl false 1 (m64 l))] [True] ⟨trivial, trivial⟩ ?_
      refine qc (rhas (ptrs W xs ys (ix (rch W xs ys l) k1)) (ix (rch W xs ys l) i1) ‹_› ‹_› (by omega)) ?_
      refine qr [] 1 11 [(11, .bool (hasB (ptrs W xs ys (ix (rch W xs ys l) k1)) (ix (rch W xs ys l) i1))), (75, .bool (hasB (ptrs W xs ys (ix (rch W xs ys l) k1)) (ix (rch W xs ys l) i1))), (74, .u (ix (rch W xs ys l) i1)), (73, .elt (.u (ix (rch W xs ys l) i1))), (72, .i i1), (71, .sl false 1 (m64 (rch W xs ys l))), (70, .sl false 1 (m64 (ptrs W xs ys (ix (rch W xs ys l) k1)))), (69, .u (ix (rch W xs ys l) k1)), (68, .elt (.u (ix (rch W xs ys l) k1))), (67, .i k1), (66, .sl false 1 (m64 (rch W xs ys l))), (65, .agg (mm W xs ys)), (64, .f), (63, .f), (62, .u (ix (rch W xs ys l) i1)), (61, .elt (.u (ix (rch W xs ys l) i1))), (60, .i i1), (59, .sl false 1 (m64 (rch W xs ys l))), (58, .u (ix (rch W xs ys l) k1)), (57, .elt (.u (ix (rch W xs ys l) k1))), (56, .i k1), (55, .sl false 1 (m64 (rch W xs ys l))), (54, .t), (54, .bool (k1 != i1)), (53, .bool (k1 != i1)), (52, .i i1), (51, .i k1), (48, .bool (decide (k1 < (((rch W xs ys l)).length : Int)))), (10, .i k1), (9, .bool (frB W xs ys l (rch W xs ys l) i1 k1)), (8, .i i1), (7, .sl false 1 (m64 (rch W xs ys l))), (5, .t), (4, .f), (2, .p 0), (1, .sl false 1 (m64 l))] [] trivial ?_
      refine qen ?_
      refine an ?_
      refine reg ?_
      refine rk [] 2 0 ⟨[(77, .bool (frB W xs ys l (rch W xs ys l) i1 k1)), (11, .bool (hasB (ptrs W xs ys (ix (rch W xs ys l) k1)) (ix (rch W xs ys l) i1))), (10, .i k1), (9, .bool (frB W xs ys l (rch W xs ys l) i1 k1)), (8, .i i1), (7, .sl false 1 (m64 (rch W xs ys l))), (5, .t), (4, .f), (2, .p 0), (1, .sl false 1 (m64 l))], [(0, .cells (mm W xs ys) 25)], 1⟩ [] trivial ?_
      refine splitr 77 (x := (frB W xs ys l (rch W xs ys l) i1 k1)) (by kernel_rfl) (fun h20 => ?_) (fun h20 => ?_)
      ·
       replace h20 : frB W xs ys l (rch W xs ys l) i1 k1 = true := h20
       refine rk [] 3 2 ⟨[(9, .t), (10, .i k1), (8, .i i1), (7, .sl false 1 (m64 (rch W xs ys l))), (5, .t), (4, .f), (2, .p 0), (1, .sl false 1 (m64 l))], [(0, .cells (mm W xs ys) 25)], 1⟩ [True] ⟨trivial, trivial⟩ ?_
       refine en ?_
       refine ib ?_
       refine an ?_
       refine re [(1, .i (k1 + 1))] 3 ⟨[(10, .i (k1 + 1)), (9, .t), (8, .i i1), (7, .sl false 1 (m64 (rch W xs ys l))), (5, .t), (4, .f), (2, .p 0), (1, .sl false 1 (m64 l))], [(0, .cells (mm W xs ys) 25)], 1⟩ [IntKind.i64.wrap (k1 + 1) = (k1 + 1)] ⟨i64_eq (by omega) (by omega), trivial⟩ ?_
       exact ag ⟨(k1 + 1), ⟨(by omega), (by omega)⟩⟩ (le_of [] [((k1 + 1) : Int) = (k1 + 1), true = (frB W xs ys l (rch W xs ys l) i1 (k1 + 1)), (i1 : Int) = i1, (false = true → false = true), ((m64 (rch W xs ys l)) : List SV) = (m64 (rch W xs ys l)), true = true, false = false, (false = true → false = true), ((m64 l) : List SV) = (m64 l), (W : Int) = W, (false = true → false = true), ((m64 xs) : List SV) = (m64 xs), (false = true → false = true), ((m64 ys) : List SV) = (m64 ys)] (by kernel_rfl) ⟨rfl, (by first | exact fr_0 | exact fr_yes (by omega) (by omega) ‹_› | exact fr_no (by omega) (by omega) ‹_› | rfl), rfl, id, rfl, rfl, rfl, id, rfl, rfl, id, rfl, id, rfl, trivial⟩) (by show (((rch W xs ys l).length : Int) - (k1 + 1)).toNat < (((rch W xs ys l).length : Int) - k1).toNat; omega)
      ·
       replace h20 : frB W xs ys l (rch W xs ys l) i1 k1 = false := h20
       refine rk [] 3 2 ⟨[(9, .bool (hasB (ptrs W xs ys (ix (rch W xs ys l) k1)) (ix (rch W xs ys l) i1))), (10, .i k1), (8, .i i1), (7, .sl false 1 (m64 (rch W xs ys l))), (5, .t), (4, .f), (2, .p 0), (1, .sl false 1 (m64 l))], [(0, .cells (mm W xs ys) 25)], 1⟩ [True] ⟨trivial, trivial⟩ ?_
       refine en ?_
       refine ib ?_
       refine an ?_
       refine re [(1, .i (k1 + 1))] 3 ⟨[(10, .i (k1 + 1)), (9, .bool (hasB (ptrs W xs ys (ix (rch W xs ys l) k1)) (ix (rch W xs ys l) i1))), (8, .i i1), (7, .sl false 1 (m64 (rch W xs ys l))), (5, .t), (4, .f), (2, .p 0), (1, .sl false 1 (m64 l))], [(0, .cells (mm W xs ys) 25)], 1⟩ [IntKind.i64.wrap (k1 + 1) = (k1 + 1)] ⟨i64_eq (by omega) (by omega), trivial⟩ ?_
       exact ag ⟨(k1 + 1), ⟨(by omega), (by omega)⟩⟩ (le_of [] [((k1 + 1) : Int) = (k1 + 1), (hasB (ptrs W xs ys (ix (rch W xs ys l) k1)) (ix (rch W xs ys l) i1)) = (frB W xs ys l (rch W xs ys l) i1 (k1 + 1)), (i1 : Int) = i1, (false = true → false = true), ((m64 (rch W xs ys l)) : List SV) = (m64 (rch W xs ys l)), true = true, false = false, (false = true → false = true), ((m64 l) : List SV) = (m64 l), (W : Int) = W, (false = true → false = true), ((m64 xs) : List SV) = (m64 xs), (false = true → false = true), ((m64 ys) : List SV) = (m64 ys)] (by kernel_rfl) ⟨rfl, (by first | exact fr_0 | exact fr_yes (by omega) (by omega) ‹_› | exact fr_no (by omega) (by omega) ‹_› | rfl), rfl, id, rfl, rfl, rfl, id, rfl, rfl, id, rfl, id, rfl, trivial⟩) (by show (((rch W xs ys l).length : Int) - (k1 + 1)).toNat < (((rch W xs ys l).length : Int) - k1).toNat; omega)
     ·
      replace h13 : k1 = i1 := bne_eq_false_iff_eq.1 h13
      refine qr [] 10 4 [(64, .f), (63, .tup []), (62, .tup []), (61, .tup []), (60, .tup []), (59, .tup []), (58, .tup []), (57, .tup []), (56, .tup []), (55, .tup []), (54, .f), (54, .bool (k1 != i1)), (53, .bool (k1 != i1)), (52, .i i1), (51, .i k1), (48, .bool (decide (k1 < (((rch W xs ys l)).length : Int)))), (10, .i k1), (9, .bool (frB W xs ys l (rch W xs ys l) i1 k1)), (8, .i i1), (7, .sl false 1 (m64 (rch W xs ys l))), (5, .t), (4, .f), (2, .p 0), (1, .sl false 1 (m64 l))] [True] ⟨trivial, trivial⟩ ?_
      refine qen ?_
      refine an ?_
      refine cf ?_
      refine xw_skip ?_
      refine an ?_
      refine xw_seq ?_
      refine dregk hmix (by kernel_rfl) ?_
      refine qr [(3, .u (ix (rch W xs ys l) k1))] 4 0 [(68, .elt (.u (ix (rch W xs ys l) k1))), (67, .i k1), (66, .sl false 1 (m64 (rch W xs ys l))), (65, .agg (mm W xs ys)), (64, .f), (63, .tup []), (62, .tup []), (61, .tup []), (60, .tup []), (59, .tup []), (58, .tup []), (57, .tup []), (56, .tup []), (55, .tup []), (54, .f), (54, .bool (k1 != i1)), (53, .bool (k1 != i1)), (52, .i i1), (51, .i k1), (48, .bool (decide (k1 < (((rch W xs ys l)).length : Int)))), (10, .i k1), (9, .bool (frB W xs ys l (rch W xs ys l) i1 k1)), (8, .i i1), (7, .sl false 1 (m64 (rch W xs ys l))), (5, .t), (4, .f), (2, .p 0), (1, .sl false 1 (m64 l))] [True, (0 : Int) ≤ k1 ∧ k1 < ((((m64 (rch W xs ys l))).length : Nat) : Int) ∧ ((m64 (rch W xs ys l)))[(k1 : Int).toNat]? = some (.u (ix (rch W xs ys l) k1))] ⟨trivial, (ix_ok (by omega) (by first | omega | (simp only [len_st]; omega) | (simp; done) | (simp; omega) | (simp [len_st, len_stx, len_sty, len_zx, len_zy]; omega))), trivial⟩ ?_
      have h14 : 0 ≤ (ix (rch W xs ys l) k1) ∧ (ix (rch W xs ys l) k1) ≤ 18446744073709551615 := U64s.ix (by first | assumption | exact U64s.st (by assumption) _ (by omega)) _
      refine qr [] 1 4 [(69, .u (ix (rch W xs ys l) k1)), (68, .elt (.u (ix (rch W xs ys l) k1))), (67, .i k1), (66, .sl false 1 (m64 (rch W xs ys l))), (65, .agg (mm W xs ys)), (64, .f), (63, .tup []), (62, .tup []), (61, .tup []), (60, .tup []), (59, .tup []), (58, .tup []), (57, .tup []), (56, .tup []), (55, .tup []), (54, .f), (54, .bool (k1 != i1)), (53, .bool (k1 != i1)), (52, .i i1), (51, .i k1), (48, .bool (decide (k1 < (((rch W xs ys l)).length : Int)))), (10, .i k1), (9, .bool (frB W xs ys l (rch W xs ys l) i1 k1)), (8, .i i1), (7, .sl false 1 (m64 (rch W xs ys l))), (5, .t), (4, .f), (2, .p 0), (1, .sl false 1 (m64 l))] [True] ⟨trivial, trivial⟩ ?_
      refine qc (rptrs W xs ys (ix (rch W xs ys l) k1) (by omega) (by omega) (by omega) ‹_› ‹_› ‹_›) ?_
      have h15 : U64s (ptrs W xs ys (ix (rch W xs ys l) k1)) := ptrs_u64 ‹_› ‹_›
      have h16 : ((ptrs W xs ys (ix (rch W xs ys l) k1)).length : Int) ≤ 64 := ptrs_le
      refine qr [(8, .u (ix (rch W xs ys l) i1))] 3 6 [(73, .elt (.u (ix (rch W xs ys l) i1))), (72, .i i1), (71, .sl false 1 (m64 (rch W xs ys l))), (70, .sl false 1 (m64 (ptrs W xs ys (ix (rch W xs ys l) k1)))), (69, .u (ix (rch W xs ys l) k1)), (68, .elt (.u (ix (rch W xs ys l) k1))), (67, .i k1), (66, .sl false 1 (m64 (rch W xs ys l))), (65, .agg (mm W xs ys)), (64, .f), (63, .tup []), (62, .tup []), (61, .tup []), (60, .tup []), (59, .tup []), (58, .tup []), (57, .tup []), (56, .tup []), (55, .tup []), (54, .f), (54, .bool (k1 != i1)), (53, .bool (k1 != i1)), (52, .i i1), (51, .i k1), (48, .bool (decide (k1 < (((rch W xs ys l)).length : Int)))), (10, .i k1), (9, .bool (frB W xs ys l (rch W xs ys l) i1 k1)), (8, .i i1), (7, .sl false 1 (m64 (rch W xs ys l))), (5, .t), (4, .f), (2, .p 0), (1, .sl false 1 (m64 l))] [(0 : Int) ≤ i1 ∧ i1 < ((((m64 (rch W xs ys l))).length : Nat) : Int) ∧ ((m64 (rch W xs ys l)))[(i1 : Int).toNat]? = some (.u (ix (rch W xs ys l) i1))] ⟨(ix_ok (by omega) (by first | omega | (simp only [len_st]; omega) | (simp; done) | (simp; omega) | (simp [len_st, len_stx, len_sty, len_zx, len_zy]; omega))), trivial⟩ ?_
      have h17 : 0 ≤ (ix (rch W xs ys l) i1) ∧ (ix (rch W xs ys l) i1) ≤ 18446744073709551615 := U64s.ix (by first | assumption | exact U64s.st (by assumption) _ (by omega)) _
      refine qr [] 1 9 [(74, .u (ix (rch W xs ys l) i1)), (73, .elt (.u (ix (rch W xs ys l) i1))), (72, .i i1), (71, .sl false 1 (m64 (rch W xs ys l))), (70, .sl false 1 (m64 (ptrs W xs ys (ix (rch W xs ys l) k1)))), (69, .u (ix (rch W xs ys l) k1)), (68, .elt (.u (ix (rch W xs ys l) k1))), (67, .i k1), (66, .sl false 1 (m64 (rch W xs ys l))), (65, .agg (mm W xs ys)), (64, .f), (63, .tup []), (62, .tup []), (61, .tup []), (60, .tup []), (59, .tup []), (58, .tup []), (57, .tup []), (56, .tup []), (55, .tup []), (54, .f), (54, .bool (k1 != i1)), (53, .bool (k1 != i1)), (52, .i i1), (51, .i k1), (48, .bool (decide (k1 < (((rch W xs ys l)).length : Int)))), (10, .i k1), (9, .bool (frB W xs ys l (rch W xs ys l) i1 k1)), (8, .i i1), (7, .sl false 1 (m64 (rch W xs ys l))), (5, .t), (4, .f), (2, .p 0), (1, .sl false 1 (m64 l))] [True] ⟨trivial, trivial⟩ ?_
      refine qc (rhas (ptrs W xs ys (ix (rch W xs ys l) k1)) (ix (rch W xs ys l) i1) ‹_› ‹_› (by omega)) ?_
      refine qr [] 1 11 [(11, .bool (hasB (ptrs W xs ys (ix (rch W xs ys l) k1)) (ix (rch W xs ys l) i1))), (75, .bool (hasB (ptrs W xs ys (ix (rch W xs ys l) k1)) (ix (rch W xs ys l) i1))), (74, .u (ix (rch W xs ys l) i1)), (73, .elt (.u (ix (rch W xs ys l) i1))), (72, .i i1), (71, .sl false 1 (m64 (rch W xs ys l))), (70, .sl false 1 (m64 (ptrs W xs ys (ix (rch W xs ys l) k1)))), (69, .u (ix (rch W xs ys l) k1)), (68, .elt (.u (ix (rch W xs ys l) k1))), (67, .i k1), (66, .sl false 1 (m64 (rch W xs ys l))), (65, .agg (mm W xs ys)), (64, .f), (63, .tup []), (62, .tup []), (61, .tup []), (60, .tup []), (59, .tup []), (58, .tup []), (57, .tup []), (56, .tup []), (55, .tup []), (54, .f), (54, .bool (k1 != i1)), (53, .bool (k1 != i1)), (52, .i i1), (51, .i k1), (48, .bool (decide (k1 < (((rch W xs ys l)).length : Int)))), (10, .i k1), (9, .bool (frB W xs ys l (rch W xs ys l) i1 k1)), (8, .i i1), (7, .sl false 1 (m64 (rch W xs ys l))), (5, .t), (4, .f), (2, .p 0), (1, .sl false 1 (m64 l))] [] trivial ?_
      refine qen ?_
      refine an ?_
      refine reg ?_
      refine rk [] 2 0 ⟨[(77, .bool (frB W xs ys l (rch W xs ys l) i1 k1)), (11, .bool (hasB (ptrs W xs ys (ix (rch W xs ys l) k1)) (ix (rch W xs ys l) i1))), (10, .i k1), (9, .bool (frB W xs ys l (rch W xs ys l) i1 k1)), (8, .i i1), (7, .sl false 1 (m64 (rch W xs ys l))), (5, .t), (4, .f), (2, .p 0), (1, .sl false 1 (m64 l))], [(0, .cells (mm W xs ys) 25)], 1⟩ [] trivial ?_
      refine splitr 77 (x := (frB W xs ys l (rch W xs ys l) i1 k1)) (by kernel_rfl) (fun h18 => ?_) (fun h18 => ?_)
      ·
       replace h18 : frB W xs ys l (rch W xs ys l) i1 k1 = true := h18
       refine rk [] 3 2 ⟨[(9, .t), (10, .i k1), (8, .i i1), (7, .sl false 1 (m64 (rch W xs ys l))), (5, .t), (4, .f), (2, .p 0), (1, .sl false 1 (m64 l))], [(0, .cells (mm W xs ys) 25)], 1⟩ [True] ⟨trivial, trivial⟩ ?_
       refine en ?_
       refine ib ?_
       refine an ?_
       refine re [(1, .i (k1 + 1))] 3 ⟨[(10, .i (k1 + 1)), (9, .t), (8, .i i1), (7, .sl false 1 (m64 (rch W xs ys l))), (5, .t), (4, .f), (2, .p 0), (1, .sl false 1 (m64 l))], [(0, .cells (mm W xs ys) 25)], 1⟩ [IntKind.i64.wrap (k1 + 1) = (k1 + 1)] ⟨i64_eq (by omega) (by omega), trivial⟩ ?_
       exact ag ⟨(k1 + 1), ⟨(by omega), (by omega)⟩⟩ (le_of [] [((k1 + 1) : Int) = (k1 + 1), true = (frB W xs ys l (rch W xs ys l) i1 (k1 + 1)), (i1 : Int) = i1, (false = true → false = true), ((m64 (rch W xs ys l)) : List SV) = (m64 (rch W xs ys l)), true = true, false = false, (false = true → false = true), ((m64 l) : List SV) = (m64 l), (W : Int) = W, (false = true → false = true), ((m64 xs) : List SV) = (m64 xs), (false = true → false = true), ((m64 ys) : List SV) = (m64 ys)] (by kernel_rfl) ⟨rfl, (by first | exact fr_0 | exact fr_yes (by omega) (by omega) ‹_› | exact fr_no (by omega) (by omega) ‹_› | rfl), rfl, id, rfl, rfl, rfl, id, rfl, rfl, id, rfl, id, rfl, trivial⟩) (by show (((rch W xs ys l).length : Int) - (k1 + 1)).toNat < (((rch W xs ys l).length : Int) - k1).toNat; omega)
      ·
       replace h18 : frB W xs ys l (rch W xs ys l) i1 k1 = false := h18
       refine rk [] 3 2 ⟨[(9, .bool (hasB (ptrs W xs ys (ix (rch W xs ys l) k1)) (ix (rch W xs ys l) i1))), (10, .i k1), (8, .i i1), (7, .sl false 1 (m64 (rch W xs ys l))), (5, .t), (4, .f), (2, .p 0), (1, .sl false 1 (m64 l))], [(0, .cells (mm W xs ys) 25)], 1⟩ [True] ⟨trivial, trivial⟩ ?_
       refine en ?_
       refine ib ?_
       refine an ?_
       refine re [(1, .i (k1 + 1))] 3 ⟨[(10, .i (k1 + 1)), (9, .bool (hasB (ptrs W xs ys (ix (rch W xs ys l) k1)) (ix (rch W xs ys l) i1))), (8, .i i1), (7, .sl false 1 (m64 (rch W xs ys l))), (5, .t), (4, .f), (2, .p 0), (1, .sl false 1 (m64 l))], [(0, .cells (mm W xs ys) 25)], 1⟩ [IntKind.i64.wrap (k1 + 1) = (k1 + 1)] ⟨i64_eq (by omega) (by omega), trivial⟩ ?_
       exact ag ⟨(k1 + 1), ⟨(by omega), (by omega)⟩⟩ (le_of [] [((k1 + 1) : Int) = (k1 + 1), (hasB (ptrs W xs ys (ix (rch W xs ys l) k1)) (ix (rch W xs ys l) i1)) = (frB W xs ys l (rch W xs ys l) i1 (k1 + 1)), (i1 : Int) = i1, (false = true → false = true), ((m64 (rch W xs ys l)) : List SV) = (m64 (rch W xs ys l)), true = true, false = false, (false = true → false = true), ((m64 l) : List SV) = (m64 l), (W : Int) = W, (false = true → false = true), ((m64 xs) : List SV) = (m64 xs), (false = true → false = true), ((m64 ys) : List SV) = (m64 ys)] (by kernel_rfl) ⟨rfl, (by first | exact fr_0 | exact fr_yes (by omega) (by omega) ‹_› | exact fr_no (by omega) (by omega) ‹_› | rfl), rfl, id, rfl, rfl, rfl, id, rfl, rfl, id, rfl, id, rfl, trivial⟩) (by show (((rch W xs ys l).length : Int) - (k1 + 1)).toNat < (((rch W xs ys l).length : Int) - k1).toNat; omega)
    ·
     replace h12 : ¬ (k1 < ((rch W xs ys l).length : Int)) := of_decide_eq_false h12
     refine xw_exit ?_
     refine an_exit ?_
     refine ag_exit ?_
     refine ib_same ?_
     refine an ?_
     refine xw_seq ?_
     refine dregk hmix (by kernel_rfl) ?_
     refine qr [(3, .u (ix (rch W xs ys l) i1))] 4 0 [(83, .elt (.u (ix (rch W xs ys l) i1))), (82, .i i1), (81, .sl false 1 (m64 (rch W xs ys l))), (80, .agg (mm W xs ys)), (48, .bool (decide (k1 < (((rch W xs ys l)).length : Int)))), (10, .i k1), (9, .bool (frB W xs ys l (rch W xs ys l) i1 k1)), (8, .i i1), (7, .sl false 1 (m64 (rch W xs ys l))), (5, .t), (4, .f), (2, .p 0), (1, .sl false 1 (m64 l))] [True, (0 : Int) ≤ i1 ∧ i1 < ((((m64 (rch W xs ys l))).length : Nat) : Int) ∧ ((m64 (rch W xs ys l)))[(i1 : Int).toNat]? = some (.u (ix (rch W xs ys l) i1))] ⟨trivial, (ix_ok (by omega) (by first | omega | (simp only [len_st]; omega) | (simp; done) | (simp; omega) | (simp [len_st, len_stx, len_sty, len_zx, len_zy]; omega))), trivial⟩ ?_
     have h13 : 0 ≤ (ix (rch W xs ys l) i1) ∧ (ix (rch W xs ys l) i1) ≤ 18446744073709551615 := U64s.ix (by first | assumption | exact U64s.st (by assumption) _ (by omega)) _
     refine qr [] 1 4 [(84, .u (ix (rch W xs ys l) i1)), (83, .elt (.u (ix (rch W xs ys l) i1))), (82, .i i1), (81, .sl false 1 (m64 (rch W xs ys l))), (80, .agg (mm W xs ys)), (48, .bool (decide (k1 < (((rch W xs ys l)).length : Int)))), (10, .i k1), (9, .bool (frB W xs ys l (rch W xs ys l) i1 k1)), (8, .i i1), (7, .sl false 1 (m64 (rch W xs ys l))), (5, .t), (4, .f), (2, .p 0), (1, .sl false 1 (m64 l))] [True] ⟨trivial, trivial⟩ ?_
     refine qc (rptrs W xs ys (ix (rch W xs ys l) i1) (by omega) (by omega) (by omega) ‹_› ‹_› ‹_›) ?_
     have h14 : U64s (ptrs W xs ys (ix (rch W xs ys l) i1)) := ptrs_u64 ‹_› ‹_›
     have h15 : ((ptrs W xs ys (ix (rch W xs ys l) i1)).length : Int) ≤ 64 := ptrs_le
     refine qr [] 1 6 [(12, .sl false 1 (m64 (ptrs W xs ys (ix (rch W xs ys l) i1)))), (85, .sl false 1 (m64 (ptrs W xs ys (ix (rch W xs ys l) i1)))), (84, .u (ix (rch W xs ys l) i1)), (83, .elt (.u (ix (rch W xs ys l) i1))), (82, .i i1), (81, .sl false 1 (m64 (rch W xs ys l))), (80, .agg (mm W xs ys)), (48, .bool (decide (k1 < (((rch W xs ys l)).length : Int)))), (10, .i k1), (9, .bool (frB W xs ys l (rch W xs ys l) i1 k1)), (8, .i i1), (7, .sl false 1 (m64 (rch W xs ys l))), (5, .t), (4, .f), (2, .p 0), (1, .sl false 1 (m64 l))] [] trivial ?_
     refine qen ?_
     refine an ?_
     refine xw_seq ?_
     refine rg [] 1 ⟨[(13, .i 0), (12, .sl false 1 (m64 (ptrs W xs ys (ix (rch W xs ys l) i1)))), (9, .bool (frB W xs ys l (rch W xs ys l) i1 k1)), (8, .i i1), (7, .sl false 1 (m64 (rch W xs ys l))), (5, .t), (4, .f), (2, .p 0), (1, .sl false 1 (m64 l))], [(0, .cells (mm W xs ys) 25)], 1⟩ [] trivial ?_
     refine xw_block ?_
     refine xw_loop (α := {q : Int // (0 ≤ q) ∧ (q ≤ ((ptrs W xs ys (ix (rch W xs ys l) i1)).length : Int))}) (fun p => ⟨[(13, .i p.1), (12, .sl false 1 (m64 (ptrs W xs ys (ix (rch W xs ys l) i1)))), (9, .bool (frB W xs ys l (rch W xs ys l) i1 ((rch W xs ys l).length : Int))), (8, .i i1), (7, .sl false 1 (m64 (rch W xs ys l))), (5, .t), (4, .f), (2, .p 0), (1, .sl false 1 (m64 l))], [(0, .cells (mm W xs ys) 25)], 1⟩) (fun p => (((ptrs W xs ys (ix (rch W xs ys l) i1)).length : Int) - p.1).toNat) ⟨0, ⟨(by omega), (by omega)⟩⟩ (le_of [] [(0 : Int) = 0, (false = true → false = true), ((m64 (ptrs W xs ys (ix (rch W xs ys l) i1))) : List SV) = (m64 (ptrs W xs ys (ix (rch W xs ys l) i1))), (frB W xs ys l (rch W xs ys l) i1 k1) = (frB W xs ys l (rch W xs ys l) i1 ((rch W xs ys l).length : Int)), (i1 : Int) = i1, (false = true → false = true), ((m64 (rch W xs ys l)) : List SV) = (m64 (rch W xs ys l)), true = true, false = false, (false = true → false = true), ((m64 l) : List SV) = (m64 l), (W : Int) = W, (false = true → false = true), ((m64 xs) : List SV) = (m64 xs), (false = true → false = true), ((m64 ys) : List SV) = (m64 ys)] (by kernel_rfl) ⟨rfl, id, rfl, (by first | exact fr_end (by omega) | rfl), rfl, id, rfl, rfl, rfl, id, rfl, rfl, id, rfl, id, rfl, trivial⟩) ?_
     rintro ⟨k2, h16, h17⟩
     show XW _ _ _ _ _ _ ⟨[(13, .int .i64 k2), (12, .sl false 1 (m64 (ptrs W xs ys (ix (rch W xs ys l) i1)))), (9, .bool (frB W xs ys l (rch W xs ys l) i1 ((rch W xs ys l).length : Int))), (8, .int .i64 i1), (7, .sl false 1 (m64 (rch W xs ys l))), (5, .bool true), (4, .bool false), (2, .loc 0 0), (1, .sl false 1 (m64 l))], [(0, .cells (mm W xs ys) 25)], 1⟩
     have h18 : ((ptrs W xs ys (ix (rch W xs ys l) i1)).length : Int) ≤ k2 ∨ (rlB W xs ys (ix (ptrs W xs ys (ix (rch W xs ys l) i1)) k2)) = false ∨ (hasB (rch W xs ys l) (ix (ptrs W xs ys (ix (rch W xs ys l) i1)) k2)) = true := cl_ix (by omega) (by omega) (by omega) (by omega)
     refine xw_seq ?_
     refine rg [(2, .i (((ptrs W xs ys (ix (rch W xs ys l) i1))).length : Int)), (3, .bool (decide (k2 < (((ptrs W xs ys (ix (rch W xs ys l) i1))).length : Int))))] 4 ⟨[(89, .bool (decide (k2 < (((ptrs W xs ys (ix (rch W xs ys l) i1))).length : Int)))), (13, .i k2), (12, .sl false 1 (m64 (ptrs W xs ys (ix (rch W xs ys l) i1)))), (9, .bool (frB W xs ys l (rch W xs ys l) i1 ((rch W xs ys l).length : Int))), (8, .i i1), (7, .sl false 1 (m64 (rch W xs ys l))), (5, .t), (4, .f), (2, .p 0), (1, .sl false 1 (m64 l))], [(0, .cells (mm W xs ys) 25)], 1⟩ [((((m64 (ptrs W xs ys (ix (rch W xs ys l) i1)))).length : Nat) : Int) = (((ptrs W xs ys (ix (rch W xs ys l) i1))).length : Int), (decide (k2 < (((ptrs W xs ys (ix (rch W xs ys l) i1))).length : Int))) = (decide (k2 < (((ptrs W xs ys (ix (rch W xs ys l) i1))).length : Int)))] ⟨(by simp), rfl, trivial⟩ ?_
     refine xw_cond (b := (decide (k2 < (((ptrs W xs ys (ix (rch W xs ys l) i1))).length : Int)))) (by kernel_rfl) (fun h19 => ?_) (fun h19 => ?_)
     ·
      replace h19 : k2 < ((ptrs W xs ys (ix (rch W xs ys l) i1)).length : Int) := of_decide_eq_true h19
      refine xw_skip ?_
      refine an ?_
      refine xw_seq ?_
      refine xw_block ?_
      refine xw_seq ?_
      refine dregk hmix (by kernel_rfl) ?_
      refine qr [(3, .u (ix (ptrs W xs ys (ix (rch W xs ys l) i1)) k2))] 4 0 [(95, .elt (.u (ix (ptrs W xs ys (ix (rch W xs ys l) i1)) k2))), (94, .i k2), (93, .sl false 1 (m64 (ptrs W xs ys (ix (rch W xs ys l) i1)))), (92, .agg (mm W xs ys)), (89, .bool (decide (k2 < (((ptrs W xs ys (ix (rch W xs ys l) i1))).length : Int)))), (13, .i k2), (12, .sl false 1 (m64 (ptrs W xs ys (ix (rch W xs ys l) i1)))), (9, .bool (frB W xs ys l (rch W xs ys l) i1 ((rch W xs ys l).length : Int))), (8, .i i1), (7, .sl false 1 (m64 (rch W xs ys l))), (5, .t), (4, .f), (2, .p 0), (1, .sl false 1 (m64 l))] [True, (0 : Int) ≤ k2 ∧ k2 < ((((m64 (ptrs W xs ys (ix (rch W xs ys l) i1)))).length : Nat) : Int) ∧ ((m64 (ptrs W xs ys (ix (rch W xs ys l) i1))))[(k2 : Int).toNat]? = some (.u (ix (ptrs W xs ys (ix (rch W xs ys l) i1)) k2))] ⟨trivial, (ix_ok (by omega) (by first | omega | (simp only [len_st]; omega) | (simp; done) | (simp; omega) | (simp [len_st, len_stx, len_sty, len_zx, len_zy]; omega))), trivial⟩ ?_
      have h20 : 0 ≤ (ix (ptrs W xs ys (ix (rch W xs ys l) i1)) k2) ∧ (ix (ptrs W xs ys (ix (rch W xs ys l) i1)) k2) ≤ 18446744073709551615 := U64s.ix (by first | assumption | exact U64s.st (by assumption) _ (by omega)) _
      refine qr [] 1 4 [(96, .u (ix (ptrs W xs ys (ix (rch W xs ys l) i1)) k2)), (95, .elt (.u (ix (ptrs W xs ys (ix (rch W xs ys l) i1)) k2))), (94, .i k2), (93, .sl false 1 (m64 (ptrs W xs ys (ix (rch W xs ys l) i1)))), (92, .agg (mm W xs ys)), (89, .bool (decide (k2 < (((ptrs W xs ys (ix (rch W xs ys l) i1))).length : Int)))), (13, .i k2), (12, .sl false 1 (m64 (ptrs W xs ys (ix (rch W xs ys l) i1)))), (9, .bool (frB W xs ys l (rch W xs ys l) i1 ((rch W xs ys l).length : Int))), (8, .i i1), (7, .sl false 1 (m64 (rch W xs ys l))), (5, .t), (4, .f), (2, .p 0), (1, .sl false 1 (m64 l))] [True] ⟨trivial, trivial⟩ ?_
      refine qc (rreal W xs ys (ix (ptrs W xs ys (ix (rch W xs ys l) i1)) k2) (by omega) (by omega) (by omega) ‹_› ‹_› ‹_›) ?_
      refine qr [] 1 6 [(14, .bool (rlB W xs ys (ix (ptrs W xs ys (ix (rch W xs ys l) i1)) k2))), (97, .bool (rlB W xs ys (ix (ptrs W xs ys (ix (rch W xs ys l) i1)) k2))), (96, .u (ix (ptrs W xs ys (ix (rch W xs ys l) i1)) k2)), (95, .elt (.u (ix (ptrs W xs ys (ix (rch W xs ys l) i1)) k2))), (94, .i k2), (93, .sl false 1 (m64 (ptrs W xs ys (ix (rch W xs ys l) i1)))), (92, .agg (mm W xs ys)), (89, .bool (decide (k2 < (((ptrs W xs ys (ix (rch W xs ys l) i1))).length : Int)))), (13, .i k2), (12, .sl false 1 (m64 (ptrs W xs ys (ix (rch W xs ys l) i1)))), (9, .bool (frB W xs ys l (rch W xs ys l) i1 ((rch W xs ys l).length : Int))), (8, .i i1), (7, .sl false 1 (m64 (rch W xs ys l))), (5, .t), (4, .f), (2, .p 0), (1, .sl false 1 (m64 l))] [] trivial ?_
      refine qen ?_
      refine an ?_
      refine xw_seq ?_
      refine reg ?_
      refine rk [(3, .u (ix (ptrs W xs ys (ix (rch W xs ys l) i1)) k2))] 4 0 ⟨[(101, .elt (.u (ix (ptrs W xs ys (ix (rch W xs ys l) i1)) k2))), (98, .sl false 1 (m64 (rch W xs ys l))), (14, .bool (rlB W xs ys (ix (ptrs W xs ys (ix (rch W xs ys l) i1)) k2))), (13, .i k2), (12, .sl false 1 (m64 (ptrs W xs ys (ix (rch W xs ys l) i1)))), (9, .bool (frB W xs ys l (rch W xs ys l) i1 ((rch W xs ys l).length : Int))), (8, .i i1), (7, .sl false 1 (m64 (rch W xs ys l))), (5, .t), (4, .f), (2, .p 0), (1, .sl false 1 (m64 l))], [(0, .cells (mm W xs ys) 25)], 1⟩ [(0 : Int) ≤ k2 ∧ k2 < ((((m64 (ptrs W xs ys (ix (rch W xs ys l) i1)))).length : Nat) : Int) ∧ ((m64 (ptrs W xs ys (ix (rch W xs ys l) i1))))[(k2 : Int).toNat]? = some (.u (ix (ptrs W xs ys (ix (rch W xs ys l) i1)) k2))] ⟨(ix_ok (by omega) (by first | omega | (simp only [len_st]; omega) | (simp; done) | (simp; omega) | (simp [len_st, len_stx, len_sty, len_zx, len_zy]; omega))), trivial⟩ ?_
      have h21 : 0 ≤ (ix (ptrs W xs ys (ix (rch W xs ys l) i1)) k2) ∧ (ix (ptrs W xs ys (ix (rch W xs ys l) i1)) k2) ≤ 18446744073709551615 := U64s.ix (by first | assumption | exact U64s.st (by assumption) _ (by omega)) _
      refine rk [] 1 4 ⟨[(102, .u (ix (ptrs W xs ys (ix (rch W xs ys l) i1)) k2)), (98, .sl false 1 (m64 (rch W xs ys l))), (14, .bool (rlB W xs ys (ix (ptrs W xs ys (ix (rch W xs ys l) i1)) k2))), (13, .i k2), (12, .sl false 1 (m64 (ptrs W xs ys (ix (rch W xs ys l) i1)))), (9, .bool (frB W xs ys l (rch W xs ys l) i1 ((rch W xs ys l).length : Int))), (8, .i i1), (7, .sl false 1 (m64 (rch W xs ys l))), (5, .t), (4, .f), (2, .p 0), (1, .sl false 1 (m64 l))], [(0, .cells (mm W xs ys) 25)], 1⟩ [True] ⟨trivial, trivial⟩ ?_
      refine pc (rhas (rch W xs ys l) (ix (ptrs W xs ys (ix (rch W xs ys l) i1)) k2) ‹_› ‹_› (by omega)) ?_
      refine rk [] 1 6 ⟨[(15, .bool (hasB (rch W xs ys l) (ix (ptrs W xs ys (ix (rch W xs ys l) i1)) k2))), (14, .bool (rlB W xs ys (ix (ptrs W xs ys (ix (rch W xs ys l) i1)) k2))), (13, .i k2), (12, .sl false 1 (m64 (ptrs W xs ys (ix (rch W xs ys l) i1)))), (9, .bool (frB W xs ys l (rch W xs ys l) i1 ((rch W xs ys l).length : Int))), (8, .i i1), (7, .sl false 1 (m64 (rch W xs ys l))), (5, .t), (4, .f), (2, .p 0), (1, .sl false 1 (m64 l))], [(0, .cells (mm W xs ys) 25)], 1⟩ [] trivial ?_
      refine en ?_
      refine an ?_
      refine xw_seq ?_
      refine reg ?_
      refine rk [] 2 0 ⟨[(105, .bool (rlB W xs ys (ix (ptrs W xs ys (ix (rch W xs ys l) i1)) k2))), (15, .bool (hasB (rch W xs ys l) (ix (ptrs W xs ys (ix (rch W xs ys l) i1)) k2))), (13, .i k2), (12, .sl false 1 (m64 (ptrs W xs ys (ix (rch W xs ys l) i1)))), (9, .bool (frB W xs ys l (rch W xs ys l) i1 ((rch W xs ys l).length : Int))), (8, .i i1), (7, .sl false 1 (m64 (rch W xs ys l))), (5, .t), (4, .f), (2, .p 0), (1, .sl false 1 (m64 l))], [(0, .cells (mm W xs ys) 25)], 1⟩ [] trivial ?_
      refine splitr 105 (x := (rlB W xs ys (ix (ptrs W xs ys (ix (rch W xs ys l) i1)) k2))) (by kernel_rfl) (fun h22 => ?_) (fun h22 => ?_)
      ·
       replace h22 : rlB W xs ys (ix (ptrs W xs ys (ix (rch W xs ys l) i1)) k2) = true := h22
       refine rk [] 3 2 ⟨[(108, .bool (!(hasB (rch W xs ys l) (ix (ptrs W xs ys (ix (rch W xs ys l) i1)) k2)))), (13, .i k2), (12, .sl false 1 (m64 (ptrs W xs ys (ix (rch W xs ys l) i1)))), (9, .bool (frB W xs ys l (rch W xs ys l) i1 ((rch W xs ys l).length : Int))), (8, .i i1), (7, .sl false 1 (m64 (rch W xs ys l))), (5, .t), (4, .f), (2, .p 0), (1, .sl false 1 (m64 l))], [(0, .cells (mm W xs ys) 25)], 1⟩ [True] ⟨trivial, trivial⟩ ?_
       refine en ?_
       refine an ?_
       refine xw_cond (b := (!(hasB (rch W xs ys l) (ix (ptrs W xs ys (ix (rch W xs ys l) i1)) k2)))) (by kernel_rfl) (fun h23 => ?_) (fun h23 => ?_)
       ·
        replace h23 : hasB (rch W xs ys l) (ix (ptrs W xs ys (ix (rch W xs ys l) i1)) k2) = false := by first | (simp; done) | simpa using h23 | (simp at h23; omega)
        exfalso; first | omega | (simp_all; done) | (simp_all; omega) | grind
       ·
        replace h23 : hasB (rch W xs ys l) (ix (ptrs W xs ys (ix (rch W xs ys l) i1)) k2) = true := by first | (simp; done) | simpa using h23
        refine xw_skip ?_
        refine ib ?_
        refine an ?_
        refine re [(1, .i (k2 + 1))] 3 ⟨[(13, .i (k2 + 1)), (12, .sl false 1 (m64 (ptrs W xs ys (ix (rch W xs ys l) i1)))), (9, .bool (frB W xs ys l (rch W xs ys l) i1 ((rch W xs ys l).length : Int))), (8, .i i1), (7, .sl false 1 (m64 (rch W xs ys l))), (5, .t), (4, .f), (2, .p 0), (1, .sl false 1 (m64 l))], [(0, .cells (mm W xs ys) 25)], 1⟩ [IntKind.i64.wrap (k2 + 1) = (k2 + 1)] ⟨i64_eq (by omega) (by omega), trivial⟩ ?_
        exact ag ⟨(k2 + 1), ⟨(by omega), (by omega)⟩⟩ (le_of [] [((k2 + 1) : Int) = (k2 + 1), (false = true → false = true), ((m64 (ptrs W xs ys (ix (rch W xs ys l) i1))) : List SV) = (m64 (ptrs W xs ys (ix (rch W xs ys l) i1))), (frB W xs ys l (rch W xs ys l) i1 ((rch W xs ys l).length : Int)) = (frB W xs ys l (rch W xs ys l) i1 ((rch W xs ys l).length : Int)), (i1 : Int) = i1, (false = true → false = true), ((m64 (rch W xs ys l)) : List SV) = (m64 (rch W xs ys l)), true = true, false = false, (false = true → false = true), ((m64 l) : List SV) = (m64 l), (W : Int) = W, (false = true → false = true), ((m64 xs) : List SV) = (m64 xs), (false = true → false = true), ((m64 ys) : List SV) = (m64 ys)] (by kernel_rfl) ⟨rfl, id, rfl, rfl, rfl, id, rfl, rfl, rfl, id, rfl, rfl, id, rfl, id, rfl, trivial⟩) (by show (((ptrs W xs ys (ix (rch W xs ys l) i1)).length : Int) - (k2 + 1)).toNat < (((ptrs W xs ys (ix (rch W xs ys l) i1)).length : Int) - k2).toNat; omega)
      ·
       replace h22 : rlB W xs ys (ix (ptrs W xs ys (ix (rch W xs ys l) i1)) k2) = false := h22
       refine rk [] 3 2 ⟨[(108, .f), (13, .i k2), (12, .sl false 1 (m64 (ptrs W xs ys (ix (rch W xs ys l) i1)))), (9, .bool (frB W xs ys l (rch W xs ys l) i1 ((rch W xs ys l).length : Int))), (8, .i i1), (7, .sl false 1 (m64 (rch W xs ys l))), (5, .t), (4, .f), (2, .p 0), (1, .sl false 1 (m64 l))], [(0, .cells (mm W xs ys) 25)], 1⟩ [True] ⟨trivial, trivial⟩ ?_
       refine en ?_
       refine an ?_
       refine cf ?_
       refine xw_skip ?_
       refine ib ?_
       refine an ?_
       refine re [(1, .i (k2 + 1))] 3 ⟨[(13, .i (k2 + 1)), (12, .sl false 1 (m64 (ptrs W xs ys (ix (rch W xs ys l) i1)))), (9, .bool (frB W xs ys l (rch W xs ys l) i1 ((rch W xs ys l).length : Int))), (8, .i i1), (7, .sl false 1 (m64 (rch W xs ys l))), (5, .t), (4, .f), (2, .p 0), (1, .sl false 1 (m64 l))], [(0, .cells (mm W xs ys) 25)], 1⟩ [IntKind.i64.wrap (k2 + 1) = (k2 + 1)] ⟨i64_eq (by omega) (by omega), trivial⟩ ?_
       exact ag ⟨(k2 + 1), ⟨(by omega), (by omega)⟩⟩ (le_of [] [((k2 + 1) : Int) = (k2 + 1), (false = true → false = true), ((m64 (ptrs W xs ys (ix (rch W xs ys l) i1))) : List SV) = (m64 (ptrs W xs ys (ix (rch W xs ys l) i1))), (frB W xs ys l (rch W xs ys l) i1 ((rch W xs ys l).length : Int)) = (frB W xs ys l (rch W xs ys l) i1 ((rch W xs ys l).length : Int)), (i1 : Int) = i1, (false = true → false = true), ((m64 (rch W xs ys l)) : List SV) = (m64 (rch W xs ys l)), true = true, false = false, (false = true → false = true), ((m64 l) : List SV) = (m64 l), (W : Int) = W, (false = true → false = true), ((m64 xs) : List SV) = (m64 xs), (false = true → false = true), ((m64 ys) : List SV) = (m64 ys)] (by kernel_rfl) ⟨rfl, id, rfl, rfl, rfl, id, rfl, rfl, rfl, id, rfl, rfl, id, rfl, id, rfl, trivial⟩) (by show (((ptrs W xs ys (ix (rch W xs ys l) i1)).length : Int) - (k2 + 1)).toNat < (((ptrs W xs ys (ix (rch W xs ys l) i1)).length : Int) - k2).toNat; omega)
     ·
      replace h19 : ¬ (k2 < ((ptrs W xs ys (ix (rch W xs ys l) i1)).length : Int)) := of_decide_eq_false h19
      refine xw_exit ?_
      refine an_exit ?_
      refine ag_exit ?_
      refine ib_same ?_
      refine an ?_
      refine rg [] 2 ⟨[(110, .bool (!(frB W xs ys l (rch W xs ys l) i1 ((rch W xs ys l).length : Int)))), (8, .i i1), (7, .sl false 1 (m64 (rch W xs ys l))), (5, .t), (4, .f), (2, .p 0), (1, .sl false 1 (m64 l))], [(0, .cells (mm W xs ys) 25)], 1⟩ [] trivial ?_
      refine xw_cond (b := (!(frB W xs ys l (rch W xs ys l) i1 ((rch W xs ys l).length : Int)))) (by kernel_rfl) (fun h20 => ?_) (fun h20 => ?_)
      ·
       replace h20 : frB W xs ys l (rch W xs ys l) i1 ((rch W xs ys l).length : Int) = false := by first | (simp; done) | simpa using h20 | (simp at h20; omega)
       exfalso; first | omega | (simp_all; done) | (simp_all; omega) | grind
      ·
       replace h20 : frB W xs ys l (rch W xs ys l) i1 ((rch W xs ys l).length : Int) = true := by first | (simp; done) | simpa using h20
       refine xw_skip ?_
       refine ib ?_
       refine an ?_
       refine re [(1, .i (i1 + 1))] 3 ⟨[(8, .i (i1 + 1)), (7, .sl false 1 (m64 (rch W xs ys l))), (5, .t), (4, .f), (2, .p 0), (1, .sl false 1 (m64 l))], [(0, .cells (mm W xs ys) 25)], 1⟩ [IntKind.i64.wrap (i1 + 1) = (i1 + 1)] ⟨i64_eq (by omega) (by omega), trivial⟩ ?_
       exact ag ⟨(i1 + 1), ⟨(by omega), (by omega)⟩⟩ (le_of [] [((i1 + 1) : Int) = (i1 + 1), (false = true → false = true), ((m64 (rch W xs ys l)) : List SV) = (m64 (rch W xs ys l)), true = true, false = false, (false = true → false = true), ((m64 l) : List SV) = (m64 l), (W : Int) = W, (false = true → false = true), ((m64 xs) : List SV) = (m64 xs), (false = true → false = true), ((m64 ys) : List SV) = (m64 ys)] (by kernel_rfl) ⟨rfl, id, rfl, rfl, rfl, id, rfl, rfl, id, rfl, id, rfl, trivial⟩) (by show (((rch W xs ys l).length : Int) - (i1 + 1)).toNat < (((rch W xs ys l).length : Int) - i1).toNat; omega)
   ·
    replace h7 : ¬ (i1 < ((rch W xs ys l).length : Int)) := of_decide_eq_false h7
    refine xw_exit ?_
    refine an_exit ?_
    refine ag_exit ?_
    refine ib_same ?_
    refine an ?_
    refine xw_seq ?_
    refine rg [] 1 ⟨[(16, .i 0), (7, .sl false 1 (m64 (rch W xs ys l))), (5, .t), (4, .f), (2, .p 0), (1, .sl false 1 (m64 l))], [(0, .cells (mm W xs ys) 25)], 1⟩ [] trivial ?_
    refine xw_block ?_
    refine xw_loop (α := {q : Int // (0 ≤ q) ∧ (q ≤ (l.length : Int))}) (fun p => ⟨[(16, .i p.1), (7, .sl false 1 (m64 (rch W xs ys l))), (5, .t), (4, .f), (2, .p 0), (1, .sl false 1 (m64 l))], [(0, .cells (mm W xs ys) 25)], 1⟩) (fun p => ((l.length : Int) - p.1).toNat) ⟨0, ⟨(by omega), (by omega)⟩⟩ (le_of [] [(0 : Int) = 0, (false = true → false = true), ((m64 (rch W xs ys l)) : List SV) = (m64 (rch W xs ys l)), true = true, false = false, (false = true → false = true), ((m64 l) : List SV) = (m64 l), (W : Int) = W, (false = true → false = true), ((m64 xs) : List SV) = (m64 xs), (false = true → false = true), ((m64 ys) : List SV) = (m64 ys)] (by kernel_rfl) ⟨rfl, id, rfl, rfl, rfl, id, rfl, rfl, id, rfl, id, rfl, trivial⟩) ?_
    rintro ⟨i2, h8, h9⟩
    show XW _ _ _ _ _ _ ⟨[(16, .int .i64 i2), (7, .sl false 1 (m64 (rch W xs ys l))), (5, .bool true), (4, .bool false), (2, .loc 0 0), (1, .sl false 1 (m64 l))], [(0, .cells (mm W xs ys) 25)], 1⟩
    have h10 : (l.length : Int) ≤ i2 ∨ ((rlB W xs ys (ix l i2)) = true ∧ (hasB (rch W xs ys l) (ix l i2)) = true) ∨ ((rlB W xs ys (ix l i2)) = false ∧ (hasB (rch W xs ys l) (ix l i2)) = false) := root_ix (by omega)
    refine xw_seq ?_
    refine rg [(2, .i ((l).length : Int)), (3, .bool (decide (i2 < ((l).length : Int))))] 4 ⟨[(114, .bool (decide (i2 < ((l).length : Int)))), (16, .i i2), (7, .sl false 1 (m64 (rch W xs ys l))), (5, .t), (4, .f), (2, .p 0), (1, .sl false 1 (m64 l))], [(0, .cells (mm W xs ys) 25)], 1⟩ [((((m64 l)).length : Nat) : Int) = ((l).length : Int), (decide (i2 < ((l).length : Int))) = (decide (i2 < ((l).length : Int)))] ⟨(by simp), rfl, trivial⟩ ?_
    refine xw_cond (b := (decide (i2 < ((l).length : Int)))) (by kernel_rfl) (fun h11 => ?_) (fun h11 => ?_)
    ·
     replace h11 : i2 < (l.length : Int) := of_decide_eq_true h11
     refine xw_skip ?_
     refine an ?_
     refine xw_seq ?_
     refine xw_block ?_
     refine xw_seq ?_
     refine dregk hmix (by kernel_rfl) ?_
     refine qr [(3, .u (ix l i2))] 4 0 [(120, .elt (.u (ix l i2))), (119, .i i2), (118, .sl false 1 (m64 l)), (117, .agg (mm W xs ys)), (114, .bool (decide (i2 < ((l).length : Int)))), (16, .i i2), (7, .sl false 1 (m64 (rch W xs ys l))), (5, .t), (4, .f), (2, .p 0), (1, .sl false 1 (m64 l))] [True, (0 : Int) ≤ i2 ∧ i2 < ((((m64 l)).length : Nat) : Int) ∧ ((m64 l))[(i2 : Int).toNat]? = some (.u (ix l i2))] ⟨trivial, (ix_ok (by omega) (by first | omega | (simp only [len_st]; omega) | (simp; done) | (simp; omega) | (simp [len_st, len_stx, len_sty, len_zx, len_zy]; omega))), trivial⟩ ?_
     have h12 : 0 ≤ (ix l i2) ∧ (ix l i2) ≤ 18446744073709551615 := U64s.ix (by first | assumption | exact U64s.st (by assumption) _ (by omega)) _
     refine qr [] 1 4 [(121, .u (ix l i2)), (120, .elt (.u (ix l i2))), (119, .i i2), (118, .sl false 1 (m64 l)), (117, .agg (mm W xs ys)), (114, .bool (decide (i2 < ((l).length : Int)))), (16, .i i2), (7, .sl false 1 (m64 (rch W xs ys l))), (5, .t), (4, .f), (2, .p 0), (1, .sl false 1 (m64 l))] [True] ⟨trivial, trivial⟩ ?_
     refine qc (rreal W xs ys (ix l i2) (by omega) (by omega) (by omega) ‹_› ‹_› ‹_›) ?_
     refine qr [] 1 6 [(17, .bool (rlB W xs ys (ix l i2))), (122, .bool (rlB W xs ys (ix l i2))), (121, .u (ix l i2)), (120, .elt (.u (ix l i2))), (119, .i i2), (118, .sl false 1 (m64 l)), (117, .agg (mm W xs ys)), (114, .bool (decide (i2 < ((l).length : Int)))), (16, .i i2), (7, .sl false 1 (m64 (rch W xs ys l))), (5, .t), (4, .f), (2, .p 0), (1, .sl false 1 (m64 l))] [] trivial ?_
     refine qen ?_
     refine an ?_
     refine xw_seq ?_
     refine reg ?_
     refine rk [(3, .u (ix l i2))] 4 0 ⟨[(126, .elt (.u (ix l i2))), (123, .sl false 1 (m64 (rch W xs ys l))), (17, .bool (rlB W xs ys (ix l i2))), (16, .i i2), (7, .sl false 1 (m64 (rch W xs ys l))), (5, .t), (4, .f), (2, .p 0), (1, .sl false 1 (m64 l))], [(0, .cells (mm W xs ys) 25)], 1⟩ [(0 : Int) ≤ i2 ∧ i2 < ((((m64 l)).length : Nat) : Int) ∧ ((m64 l))[(i2 : Int).toNat]? = some (.u (ix l i2))] ⟨(ix_ok (by omega) (by first | omega | (simp only [len_st]; omega) | (simp; done) | (simp; omega) | (simp [len_st, len_stx, len_sty, len_zx, len_zy]; omega))), trivial⟩ ?_
     have h13 : 0 ≤ (ix l i2) ∧ (ix l i2) ≤ 18446744073709551615 := U64s.ix (by first | assumption | exact U64s.st (by assumption) _ (by omega)) _
     refine rk [] 1 4 ⟨[(127, .u (ix l i2)), (123, .sl false 1 (m64 (rch W xs ys l))), (17, .bool (rlB W xs ys (ix l i2))), (16, .i i2), (7, .sl false 1 (m64 (rch W xs ys l))), (5, .t), (4, .f), (2, .p 0), (1, .sl false 1 (m64 l))], [(0, .cells (mm W xs ys) 25)], 1⟩ [True] ⟨trivial, trivial⟩ ?_
     refine pc (rhas (rch W xs ys l) (ix l i2) ‹_› ‹_› (by omega)) ?_
     refine rk [] 1 6 ⟨[(18, .bool (hasB (rch W xs ys l) (ix l i2))), (17, .bool (rlB W xs ys (ix l i2))), (16, .i i2), (7, .sl false 1 (m64 (rch W xs ys l))), (5, .t), (4, .f), (2, .p 0), (1, .sl false 1 (m64 l))], [(0, .cells (mm W xs ys) 25)], 1⟩ [] trivial ?_
     refine en ?_
     refine an ?_
     refine xw_seq ?_
     refine reg ?_
     refine rk [] 2 0 ⟨[(130, .bool (hasB (rch W xs ys l) (ix l i2))), (129, .bool (rlB W xs ys (ix l i2))), (16, .i i2), (7, .sl false 1 (m64 (rch W xs ys l))), (5, .t), (4, .f), (2, .p 0), (1, .sl false 1 (m64 l))], [(0, .cells (mm W xs ys) 25)], 1⟩ [] trivial ?_
     by_cases h14 : rlB W xs ys (ix l i2) = true
     ·
      refine rk [(2, .f)] 1 2 ⟨[(131, .f), (16, .i i2), (7, .sl false 1 (m64 (rch W xs ys l))), (5, .t), (4, .f), (2, .p 0), (1, .sl false 1 (m64 l))], [(0, .cells (mm W xs ys) 25)], 1⟩ [(!((rlB W xs ys (ix l i2)) == (hasB (rch W xs ys l) (ix l i2)))) = false] ⟨(by rw [show (rlB W xs ys (ix l i2)) = true from (by first | exact decide_eq_true (by omega) | exact decide_eq_false (by omega) | (simp; done) | (simp; omega) | (simp_all; done) | (simp_all; omega) | grind), show (hasB (rch W xs ys l) (ix l i2)) = true from (by first | exact decide_eq_true (by omega) | exact decide_eq_false (by omega) | (simp; done) | (simp; omega) | (simp_all; done) | (simp_all; omega) | grind)]; rfl), trivial⟩ ?_
      refine en ?_
      refine an ?_
      refine cf ?_
      refine xw_skip ?_
      refine ib ?_
      refine an ?_
      refine re [(1, .i (i2 + 1))] 3 ⟨[(16, .i (i2 + 1)), (7, .sl false 1 (m64 (rch W xs ys l))), (5, .t), (4, .f), (2, .p 0), (1, .sl false 1 (m64 l))], [(0, .cells (mm W xs ys) 25)], 1⟩ [IntKind.i64.wrap (i2 + 1) = (i2 + 1)] ⟨i64_eq (by omega) (by omega), trivial⟩ ?_
      exact ag ⟨(i2 + 1), ⟨(by omega), (by omega)⟩⟩ (le_of [] [((i2 + 1) : Int) = (i2 + 1), (false = true → false = true), ((m64 (rch W xs ys l)) : List SV) = (m64 (rch W xs ys l)), true = true, false = false, (false = true → false = true), ((m64 l) : List SV) = (m64 l), (W : Int) = W, (false = true → false = true), ((m64 xs) : List SV) = (m64 xs), (false = true → false = true), ((m64 ys) : List SV) = (m64 ys)] (by kernel_rfl) ⟨rfl, id, rfl, rfl, rfl, id, rfl, rfl, id, rfl, id, rfl, trivial⟩) (by show ((l.length : Int) - (i2 + 1)).toNat < ((l.length : Int) - i2).toNat; omega)
     ·
      refine rk [(2, .f)] 1 2 ⟨[(131, .f), (16, .i i2), (7, .sl false 1 (m64 (rch W xs ys l))), (5, .t), (4, .f), (2, .p 0), (1, .sl false 1 (m64 l))], [(0, .cells (mm W xs ys) 25)], 1⟩ [(!((rlB W xs ys (ix l i2)) == (hasB (rch W xs ys l) (ix l i2)))) = false] ⟨(by rw [show (rlB W xs ys (ix l i2)) = false from (by first | exact decide_eq_true (by omega) | exact decide_eq_false (by omega) | (simp; done) | (simp; omega) | (simp_all; done) | (simp_all; omega) | grind), show (hasB (rch W xs ys l) (ix l i2)) = false from (by first | exact decide_eq_true (by omega) | exact decide_eq_false (by omega) | (simp; done) | (simp; omega) | (simp_all; done) | (simp_all; omega) | grind)]; rfl), trivial⟩ ?_
      refine en ?_
      refine an ?_
      refine cf ?_
      refine xw_skip ?_
      refine ib ?_
      refine an ?_
      refine re [(1, .i (i2 + 1))] 3 ⟨[(16, .i (i2 + 1)), (7, .sl false 1 (m64 (rch W xs ys l))), (5, .t), (4, .f), (2, .p 0), (1, .sl false 1 (m64 l))], [(0, .cells (mm W xs ys) 25)], 1⟩ [IntKind.i64.wrap (i2 + 1) = (i2 + 1)] ⟨i64_eq (by omega) (by omega), trivial⟩ ?_
      exact ag ⟨(i2 + 1), ⟨(by omega), (by omega)⟩⟩ (le_of [] [((i2 + 1) : Int) = (i2 + 1), (false = true → false = true), ((m64 (rch W xs ys l)) : List SV) = (m64 (rch W xs ys l)), true = true, false = false, (false = true → false = true), ((m64 l) : List SV) = (m64 l), (W : Int) = W, (false = true → false = true), ((m64 xs) : List SV) = (m64 xs), (false = true → false = true), ((m64 ys) : List SV) = (m64 ys)] (by kernel_rfl) ⟨rfl, id, rfl, rfl, rfl, id, rfl, rfl, id, rfl, id, rfl, trivial⟩) (by show ((l.length : Int) - (i2 + 1)).toNat < ((l.length : Int) - i2).toNat; omega)
    ·
     replace h11 : ¬ (i2 < (l.length : Int)) := of_decide_eq_false h11
     refine xw_exit ?_
     refine an_exit ?_
     refine ag_exit ?_
     refine ib_same ?_
     refine an ?_
     refine rg [] 2 ⟨[(4, .t)], [], 1⟩ [] trivial ?_
     refine xw_ret ?_
     exact bs (.t) rfl
 ·
  refine pc (few6_2 W xs ys ‹_› ‹_›) ?_
  refine rk [] 1 2 ⟨[(6, .f), (5, .t), (4, .f), (2, .p 0), (1, .sl false 1 (m64 l))], [(0, .cells (mm W xs ys) 25)], 1⟩ [] trivial ?_
  refine en ?_
  refine an ?_
  refine xw_seq ?_
  refine rg [] 7 ⟨[(28, .t), (5, .t), (4, .f), (2, .p 0), (1, .sl false 1 (m64 l))], [(0, .cells (mm W xs ys) 25)], 1⟩ [True] ⟨trivial, trivial⟩ ?_
  refine ct ?_
  refine rg [] 2 ⟨[(4, .t), (5, .t), (2, .p 0), (1, .sl false 1 (m64 l))], [(0, .cells (mm W xs ys) 25)], 1⟩ [] trivial ?_
  refine xw_ret ?_
  refine an_ret ?_
  exact bs (.t) rfl

end Go.Proofs.Ytlapjlbmhaalbaa.X
