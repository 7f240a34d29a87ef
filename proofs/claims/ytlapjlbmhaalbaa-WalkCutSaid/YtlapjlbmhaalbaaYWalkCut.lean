/- Contracts of Go functions: what each returns, for every input that its premises name; no memory of the caller is touched. Printed by a program. -/
import Derived.Test.YtlapjlbmhaalbaaXh3
namespace Go.Proofs.Ytlapjlbmhaalbaa.X
open Go Go.RowKit
set_option linter.unusedVariables false      -- a premise may serve only to tell which way is taken
set_option linter.unusedSimpArgs false
set_option maxHeartbeats 8000000 in
theorem walkCut (W : Int) (xs ys : List Int) (s a b : Int) (hp0 : -9223372036854775808 ≤ W ∧ W ≤ 9223372036854775807) (hp1 : U64s xs) (hp2 : U64s ys) (hp3 : -9223372036854775808 ≤ s ∧ s ≤ 9223372036854775807) (hp4 : -9223372036854775808 ≤ a ∧ a ≤ 9223372036854775807) (hp5 : -9223372036854775808 ≤ b ∧ b ≤ 9223372036854775807) : Pub Try.prog 3 [.agg (mr W xs ys [.i s, .i a, .i b])] (fun rv => rv = .t) := by
 refine pub_of TT_ok Try.func3 rfl (by decide) (Nat.le_of_ble_eq_true (by kernel_rfl)) (by kernel_rfl) ?_
 refine rg [] 2 ⟨[(2, .f), (1, .p 0)], [(0, .cells (mr W xs ys [.i s, .i a, .i b]) 27)], 1⟩ [] trivial ?_
 refine rg [] 4 ⟨[(3, .p 1), (2, .f), (1, .p 0)], [(1, .cells (mm W xs ys) 25), (0, .cells (mr W xs ys [.i s, .i a, .i b]) 27)], 2⟩ [True, True] ⟨trivial, trivial, trivial⟩ ?_
 refine rg [] 3 ⟨[(4, .i s), (3, .p 1), (2, .f), (1, .p 0)], [(1, .cells (mm W xs ys) 25), (0, .cells (mr W xs ys [.i s, .i a, .i b]) 27)], 2⟩ [True] ⟨trivial, trivial⟩ ?_
 refine rg [] 3 ⟨[(5, .i a), (4, .i s), (3, .p 1), (2, .f), (1, .p 0)], [(1, .cells (mm W xs ys) 25), (0, .cells (mr W xs ys [.i s, .i a, .i b]) 27)], 2⟩ [True] ⟨trivial, trivial⟩ ?_
 refine rg [] 3 ⟨[(6, .i b), (5, .i a), (4, .i s), (3, .p 1), (2, .f)], [(1, .cells (mm W xs ys) 25)], 2⟩ [True] ⟨trivial, trivial⟩ ?_
 refine xw_seq ?_
 refine reg ?_
 refine pc (shown6 ) ?_
 refine rk [] 1 1 ⟨[(7, .t), (6, .i b), (5, .i a), (4, .i s), (3, .p 1), (2, .f)], [(1, .cells (mm W xs ys) 25)], 2⟩ [] trivial ?_
 refine en ?_
 refine an ?_
 refine xw_seq ?_
 refine reg ?_
 refine rk [] 1 0 ⟨[(25, .agg (mm W xs ys)), (7, .t), (6, .i b), (5, .i a), (4, .i s), (3, .p 1), (2, .f)], [(1, .cells (mm W xs ys) 25)], 2⟩ [True] ⟨trivial, trivial⟩ ?_
 by_cases h0 : 16 ≤ W ∧ W ≤ 200 ∧ (xs.length : Int) = W ∧ (ys.length : Int) = W
 ·
  refine pc (few6_1 W xs ys ‹_› ‹_›) ?_
  refine rk [] 1 2 ⟨[(8, .t), (7, .t), (6, .i b), (5, .i a), (4, .i s), (3, .p 1), (2, .f)], [(1, .cells (mm W xs ys) 25)], 2⟩ [] trivial ?_
  refine en ?_
  refine an ?_
  refine xw_seq ?_
  refine xw_seq ?_
  refine reg ?_
  refine rk [(5, .bool (decide (b < a)))] 8 0 ⟨[(34, .bool (decide (b < a))), (7, .t), (6, .i b), (5, .i a), (4, .i s), (3, .p 1), (2, .f)], [(1, .cells (mm W xs ys) 25)], 2⟩ [(decide (b < a)) = (decide (b < a)), True] ⟨rfl, trivial, trivial⟩ ?_
  refine splitr 34 (x := (decide (b < a))) (by kernel_rfl) (fun h1 => ?_) (fun h1 => ?_)
  ·
   replace h1 : b < a := of_decide_eq_true h1
   refine rk [] 6 8 ⟨[(40, .t), (7, .t), (5, .i a), (4, .i s), (3, .p 1), (2, .f)], [(1, .cells (mm W xs ys) 25)], 2⟩ [True] ⟨trivial, trivial⟩ ?_
   refine en ?_
   refine an ?_
   refine ct ?_
   refine rg [] 2 ⟨[(2, .t), (7, .t), (5, .i a), (4, .i s), (3, .p 1)], [(1, .cells (mm W xs ys) 25)], 2⟩ [] trivial ?_
   refine xw_ret ?_
   refine an_ret ?_
   exact bs (.t) rfl
  ·
   replace h1 : ¬ (b < a) := of_decide_eq_false h1
   refine rk [] 3 8 ⟨[(37, .i b), (36, .i s), (35, .agg (mm W xs ys)), (34, .f), (7, .t), (5, .i a), (4, .i s), (3, .p 1), (2, .f)], [(1, .cells (mm W xs ys) 25)], 2⟩ [True] ⟨trivial, trivial⟩ ?_
   by_cases h2 : ¬ (0 ≤ s ∧ s ≤ 1 ∧ 0 ≤ b ∧ b ≤ W)
   ·
    refine pc (wsound_1 W xs ys s b (by omega) (by omega) (by omega) ‹_› ‹_› ‹_› ‹_› ‹_›) ?_
    refine rk [] 2 12 ⟨[(40, .t), (7, .t), (5, .i a), (4, .i s), (3, .p 1), (2, .f)], [(1, .cells (mm W xs ys) 25)], 2⟩ [True] ⟨trivial, trivial⟩ ?_
    refine en ?_
    refine an ?_
    refine ct ?_
    refine rg [] 2 ⟨[(2, .t), (7, .t), (5, .i a), (4, .i s), (3, .p 1)], [(1, .cells (mm W xs ys) 25)], 2⟩ [] trivial ?_
    refine xw_ret ?_
    refine an_ret ?_
    exact bs (.t) rfl
   ·
    by_cases h3 : (wE W xs ys s b) = 0
    ·
     refine pc (wsound_2 W xs ys s b (by omega) (by omega) (by omega) ‹_› ‹_› ‹_› ‹_› (by omega) ‹_›) ?_
     refine rk [] 2 12 ⟨[(40, .bool (!(snB W xs ys (wO W xs ys s b) ((wO W xs ys s b).length : Int)))), (7, .t), (5, .i a), (4, .i s), (3, .p 1), (2, .f)], [(1, .cells (mm W xs ys) 25)], 2⟩ [True] ⟨trivial, trivial⟩ ?_
     refine en ?_
     refine an ?_
     refine xw_cond (b := (!(snB W xs ys (wO W xs ys s b) ((wO W xs ys s b).length : Int)))) (by kernel_rfl) (fun h4 => ?_) (fun h4 => ?_)
     ·
      replace h4 : snB W xs ys (wO W xs ys s b) ((wO W xs ys s b).length : Int) = false := by first | (simp; done) | simpa using h4 | (simp at h4; omega)
      refine rg [] 2 ⟨[(2, .t), (7, .t), (5, .i a), (4, .i s), (3, .p 1)], [(1, .cells (mm W xs ys) 25)], 2⟩ [] trivial ?_
      refine xw_ret ?_
      refine an_ret ?_
      exact bs (.t) rfl
     ·
      replace h4 : snB W xs ys (wO W xs ys s b) ((wO W xs ys s b).length : Int) = true := by first | (simp; done) | simpa using h4
      refine xw_skip ?_
      refine an ?_
      refine xw_seq ?_
      refine reg ?_
      refine rk [] 3 0 ⟨[(45, .i a), (44, .i s), (43, .agg (mm W xs ys)), (7, .t), (5, .i a), (4, .i s), (3, .p 1), (2, .f)], [(1, .cells (mm W xs ys) 25)], 2⟩ [True] ⟨trivial, trivial⟩ ?_
      by_cases h5 : ¬ (0 ≤ s ∧ s ≤ 1 ∧ 0 ≤ a ∧ a ≤ W)
      ·
       refine pc (wobjects_1 W xs ys s a (by omega) (by omega) (by omega) ‹_› ‹_› ‹_› ‹_› ‹_›) ?_
       refine rk [] 5 4 ⟨[(10, .i 1), (9, .nils), (7, .t), (5, .i a), (4, .i s), (3, .p 1), (2, .f)], [(1, .cells (mm W xs ys) 25)], 2⟩ [] trivial ?_
       refine en ?_
       refine an ?_
       refine xw_seq ?_
       refine rg [(1, .t)] 2 ⟨[(50, .t), (9, .nils), (7, .t), (5, .i a), (4, .i s), (3, .p 1), (2, .f)], [(1, .cells (mm W xs ys) 25)], 2⟩ [(1 != 0) = true] ⟨bne_iff_ne.2 (by omega), trivial⟩ ?_
       refine ct ?_
       refine xw_seq ?_
       refine reg ?_
       refine rk [] 5 0 ⟨[(55, .i a), (54, .i s), (53, .agg (mm W xs ys)), (52, .t), (9, .nils), (7, .t), (5, .i a), (4, .i s), (3, .p 1), (2, .f)], [(1, .cells (mm W xs ys) 25)], 2⟩ [True] ⟨trivial, trivial⟩ ?_
       refine pc (wsound_1 W xs ys s a (by omega) (by omega) (by omega) ‹_› ‹_› ‹_› ‹_› ‹_›) ?_
       refine rk [] 3 6 ⟨[(2, .t), (9, .nils), (7, .t), (5, .i a), (4, .i s), (3, .p 1)], [(1, .cells (mm W xs ys) 25)], 2⟩ [True] ⟨trivial, trivial⟩ ?_
       refine en ?_
       refine an ?_
       refine xw_ret ?_
       refine an_ret ?_
       exact bs (.t) rfl
      ·
       by_cases h6 : (wE W xs ys s a) = 0
       ·
        refine pc (wobjects_2 W xs ys s a (by omega) (by omega) (by omega) ‹_› ‹_› ‹_› ‹_› (by omega) ‹_›) ?_
        obtain ⟨h7, h8⟩ := wO_ok W xs ys s a (by omega) (by omega)
        refine rk [] 5 4 ⟨[(10, .i 0), (9, .sl false 1 (m64 (wO W xs ys s a))), (7, .t), (5, .i a), (4, .i s), (3, .p 1), (2, .f)], [(1, .cells (mm W xs ys) 25)], 2⟩ [] trivial ?_
        refine en ?_
        refine an ?_
        refine xw_seq ?_
        refine rg [(1, .f)] 2 ⟨[(50, .f), (9, .sl false 1 (m64 (wO W xs ys s a))), (7, .t), (5, .i a), (4, .i s), (3, .p 1), (2, .f)], [(1, .cells (mm W xs ys) 25)], 2⟩ [(0 != 0) = false] ⟨bne_eq_false_iff_eq.2 (by omega), trivial⟩ ?_
        refine cf ?_
        refine xw_skip ?_
        refine an ?_
        refine rg [] 1 ⟨[(11, .f), (9, .sl false 1 (m64 (wO W xs ys s a))), (7, .t), (5, .i a), (4, .i s), (3, .p 1), (2, .f)], [(1, .cells (mm W xs ys) 25)], 2⟩ [] trivial ?_
        refine xw_seq ?_
        refine rg [] 1 ⟨[(12, .i 0), (11, .f), (9, .sl false 1 (m64 (wO W xs ys s a))), (7, .t), (5, .i a), (4, .i s), (3, .p 1), (2, .f)], [(1, .cells (mm W xs ys) 25)], 2⟩ [] trivial ?_
        refine xw_block ?_
        refine xw_loop (α := {q : Int // (0 ≤ q) ∧ (q ≤ ((wO W xs ys s a).length : Int))}) (fun p => ⟨[(12, .i p.1), (11, .bool (ldB W xs ys (wO W xs ys s a) p.1)), (9, .sl false 1 (m64 (wO W xs ys s a))), (7, .t), (5, .i a), (4, .i s), (3, .p 1), (2, .f)], [(1, .cells (mm W xs ys) 25)], 2⟩) (fun p => (((wO W xs ys s a).length : Int) - p.1).toNat) ⟨0, ⟨(by omega), (by omega)⟩⟩ (le_of [] [(0 : Int) = 0, false = (ldB W xs ys (wO W xs ys s a) 0), (false = true → false = true), ((m64 (wO W xs ys s a)) : List SV) = (m64 (wO W xs ys s a)), true = true, (a : Int) = a, (s : Int) = s, false = false, (W : Int) = W, (false = true → false = true), ((m64 xs) : List SV) = (m64 xs), (false = true → false = true), ((m64 ys) : List SV) = (m64 ys)] (by kernel_rfl) ⟨rfl, (by first | exact ldB_0 | exact ldK_0 | exact ldK_yes (by omega) (by omega) ‹_› | exact ldK_zero (by omega) (by omega) ‹_› (by omega) | exact ldK_has (by omega) (by omega) ‹_› (by omega) | exact ldB_next (by omega) (by omega) (by omega) | rfl), id, rfl, rfl, rfl, rfl, rfl, rfl, id, rfl, id, rfl, trivial⟩) ?_
        rintro ⟨i1, h9, h10⟩
        show XW _ _ _ _ _ _ ⟨[(12, .int .i64 i1), (11, .bool (ldB W xs ys (wO W xs ys s a) i1)), (9, .sl false 1 (m64 (wO W xs ys s a))), (7, .bool true), (5, .int .i64 a), (4, .int .i64 s), (3, .loc 1 0), (2, .bool false)], [(1, .cells (mm W xs ys) 25)], 2⟩
        refine xw_seq ?_
        refine rg [(2, .i (((wO W xs ys s a)).length : Int)), (3, .bool (decide (i1 < (((wO W xs ys s a)).length : Int))))] 4 ⟨[(62, .bool (decide (i1 < (((wO W xs ys s a)).length : Int)))), (12, .i i1), (11, .bool (ldB W xs ys (wO W xs ys s a) i1)), (9, .sl false 1 (m64 (wO W xs ys s a))), (7, .t), (5, .i a), (4, .i s), (3, .p 1), (2, .f)], [(1, .cells (mm W xs ys) 25)], 2⟩ [((((m64 (wO W xs ys s a))).length : Nat) : Int) = (((wO W xs ys s a)).length : Int), (decide (i1 < (((wO W xs ys s a)).length : Int))) = (decide (i1 < (((wO W xs ys s a)).length : Int)))] ⟨(by simp), rfl, trivial⟩ ?_
        refine xw_cond (b := (decide (i1 < (((wO W xs ys s a)).length : Int)))) (by kernel_rfl) (fun h11 => ?_) (fun h11 => ?_)
        ·
         replace h11 : i1 < ((wO W xs ys s a).length : Int) := of_decide_eq_true h11
         refine xw_skip ?_
         refine an ?_
         refine xw_seq ?_
         refine xw_block ?_
         refine xw_seq ?_
         refine dregk hmix (by kernel_rfl) ?_
         refine qr [(3, .u (ix (wO W xs ys s a) i1))] 4 0 [(68, .elt (.u (ix (wO W xs ys s a) i1))), (67, .i i1), (66, .sl false 1 (m64 (wO W xs ys s a))), (65, .agg (mm W xs ys)), (62, .bool (decide (i1 < (((wO W xs ys s a)).length : Int)))), (12, .i i1), (11, .bool (ldB W xs ys (wO W xs ys s a) i1)), (9, .sl false 1 (m64 (wO W xs ys s a))), (7, .t), (5, .i a), (4, .i s), (3, .p 1), (2, .f)] [True, (0 : Int) ≤ i1 ∧ i1 < ((((m64 (wO W xs ys s a))).length : Nat) : Int) ∧ ((m64 (wO W xs ys s a)))[(i1 : Int).toNat]? = some (.u (ix (wO W xs ys s a) i1))] ⟨trivial, (ix_ok (by omega) (by first | omega | (simp only [len_st]; omega) | (simp; done) | (simp; omega) | (simp [len_st, len_stx, len_sty, len_zx, len_zy]; omega))), trivial⟩ ?_
         have h12 : 0 ≤ (ix (wO W xs ys s a) i1) ∧ (ix (wO W xs ys s a) i1) ≤ 18446744073709551615 := U64s.ix (by first | assumption | exact U64s.st (by assumption) _ (by omega)) _
         refine qr [] 1 4 [(69, .u (ix (wO W xs ys s a) i1)), (68, .elt (.u (ix (wO W xs ys s a) i1))), (67, .i i1), (66, .sl false 1 (m64 (wO W xs ys s a))), (65, .agg (mm W xs ys)), (62, .bool (decide (i1 < (((wO W xs ys s a)).length : Int)))), (12, .i i1), (11, .bool (ldB W xs ys (wO W xs ys s a) i1)), (9, .sl false 1 (m64 (wO W xs ys s a))), (7, .t), (5, .i a), (4, .i s), (3, .p 1), (2, .f)] [True] ⟨trivial, trivial⟩ ?_
         refine qc (rptrs W xs ys (ix (wO W xs ys s a) i1) (by omega) (by omega) (by omega) ‹_› ‹_› ‹_›) ?_
         have h13 : U64s (ptrs W xs ys (ix (wO W xs ys s a) i1)) := ptrs_u64 ‹_› ‹_›
         have h14 : ((ptrs W xs ys (ix (wO W xs ys s a) i1)).length : Int) ≤ 64 := ptrs_le
         refine qr [] 1 6 [(13, .sl false 1 (m64 (ptrs W xs ys (ix (wO W xs ys s a) i1)))), (70, .sl false 1 (m64 (ptrs W xs ys (ix (wO W xs ys s a) i1)))), (69, .u (ix (wO W xs ys s a) i1)), (68, .elt (.u (ix (wO W xs ys s a) i1))), (67, .i i1), (66, .sl false 1 (m64 (wO W xs ys s a))), (65, .agg (mm W xs ys)), (62, .bool (decide (i1 < (((wO W xs ys s a)).length : Int)))), (12, .i i1), (11, .bool (ldB W xs ys (wO W xs ys s a) i1)), (9, .sl false 1 (m64 (wO W xs ys s a))), (7, .t), (5, .i a), (4, .i s), (3, .p 1), (2, .f)] [] trivial ?_
         refine qen ?_
         refine an ?_
         refine rg [] 1 ⟨[(14, .i 0), (13, .sl false 1 (m64 (ptrs W xs ys (ix (wO W xs ys s a) i1)))), (12, .i i1), (11, .bool (ldB W xs ys (wO W xs ys s a) i1)), (9, .sl false 1 (m64 (wO W xs ys s a))), (7, .t), (5, .i a), (4, .i s), (3, .p 1), (2, .f)], [(1, .cells (mm W xs ys) 25)], 2⟩ [] trivial ?_
         refine xw_block ?_
         refine xw_loop (α := {q : Int // (0 ≤ q) ∧ (q ≤ ((ptrs W xs ys (ix (wO W xs ys s a) i1)).length : Int))}) (fun p => ⟨[(14, .i p.1), (13, .sl false 1 (m64 (ptrs W xs ys (ix (wO W xs ys s a) i1)))), (12, .i i1), (11, .bool (ldK W xs ys (wO W xs ys s a) i1 p.1)), (9, .sl false 1 (m64 (wO W xs ys s a))), (7, .t), (5, .i a), (4, .i s), (3, .p 1), (2, .f)], [(1, .cells (mm W xs ys) 25)], 2⟩) (fun p => (((ptrs W xs ys (ix (wO W xs ys s a) i1)).length : Int) - p.1).toNat) ⟨0, ⟨(by omega), (by omega)⟩⟩ (le_of [] [(0 : Int) = 0, (false = true → false = true), ((m64 (ptrs W xs ys (ix (wO W xs ys s a) i1))) : List SV) = (m64 (ptrs W xs ys (ix (wO W xs ys s a) i1))), (i1 : Int) = i1, (ldB W xs ys (wO W xs ys s a) i1) = (ldK W xs ys (wO W xs ys s a) i1 0), (false = true → false = true), ((m64 (wO W xs ys s a)) : List SV) = (m64 (wO W xs ys s a)), true = true, (a : Int) = a, (s : Int) = s, false = false, (W : Int) = W, (false = true → false = true), ((m64 xs) : List SV) = (m64 xs), (false = true → false = true), ((m64 ys) : List SV) = (m64 ys)] (by kernel_rfl) ⟨rfl, id, rfl, rfl, (by first | exact ldB_0 | exact ldK_0 | exact ldK_yes (by omega) (by omega) ‹_› | exact ldK_zero (by omega) (by omega) ‹_› (by omega) | exact ldK_has (by omega) (by omega) ‹_› (by omega) | exact ldB_next (by omega) (by omega) (by omega) | rfl), id, rfl, rfl, rfl, rfl, rfl, rfl, id, rfl, id, rfl, trivial⟩) ?_
         rintro ⟨k1, h15, h16⟩
         show XW _ _ _ _ _ _ ⟨[(14, .int .i64 k1), (13, .sl false 1 (m64 (ptrs W xs ys (ix (wO W xs ys s a) i1)))), (12, .int .i64 i1), (11, .bool (ldK W xs ys (wO W xs ys s a) i1 k1)), (9, .sl false 1 (m64 (wO W xs ys s a))), (7, .bool true), (5, .int .i64 a), (4, .int .i64 s), (3, .loc 1 0), (2, .bool false)], [(1, .cells (mm W xs ys) 25)], 2⟩
         refine xw_seq ?_
         refine rg [(2, .i (((ptrs W xs ys (ix (wO W xs ys s a) i1))).length : Int)), (3, .bool (decide (k1 < (((ptrs W xs ys (ix (wO W xs ys s a) i1))).length : Int))))] 4 ⟨[(74, .bool (decide (k1 < (((ptrs W xs ys (ix (wO W xs ys s a) i1))).length : Int)))), (14, .i k1), (13, .sl false 1 (m64 (ptrs W xs ys (ix (wO W xs ys s a) i1)))), (12, .i i1), (11, .bool (ldK W xs ys (wO W xs ys s a) i1 k1)), (9, .sl false 1 (m64 (wO W xs ys s a))), (7, .t), (5, .i a), (4, .i s), (3, .p 1), (2, .f)], [(1, .cells (mm W xs ys) 25)], 2⟩ [((((m64 (ptrs W xs ys (ix (wO W xs ys s a) i1)))).length : Nat) : Int) = (((ptrs W xs ys (ix (wO W xs ys s a) i1))).length : Int), (decide (k1 < (((ptrs W xs ys (ix (wO W xs ys s a) i1))).length : Int))) = (decide (k1 < (((ptrs W xs ys (ix (wO W xs ys s a) i1))).length : Int)))] ⟨(by simp), rfl, trivial⟩ ?_
         refine xw_cond (b := (decide (k1 < (((ptrs W xs ys (ix (wO W xs ys s a) i1))).length : Int)))) (by kernel_rfl) (fun h17 => ?_) (fun h17 => ?_)
         ·
          replace h17 : k1 < ((ptrs W xs ys (ix (wO W xs ys s a) i1)).length : Int) := of_decide_eq_true h17
          refine xw_skip ?_
          refine an ?_
          refine xw_seq ?_
          refine xw_block ?_
          refine xw_seq ?_
          refine reg ?_
          refine rk [(3, .u (ix (ptrs W xs ys (ix (wO W xs ys s a) i1)) k1))] 4 0 ⟨[(80, .elt (.u (ix (ptrs W xs ys (ix (wO W xs ys s a) i1)) k1))), (77, .sl false 1 (m64 (wO W xs ys s a))), (14, .i k1), (13, .sl false 1 (m64 (ptrs W xs ys (ix (wO W xs ys s a) i1)))), (12, .i i1), (11, .bool (ldK W xs ys (wO W xs ys s a) i1 k1)), (9, .sl false 1 (m64 (wO W xs ys s a))), (7, .t), (5, .i a), (4, .i s), (3, .p 1), (2, .f)], [(1, .cells (mm W xs ys) 25)], 2⟩ [(0 : Int) ≤ k1 ∧ k1 < ((((m64 (ptrs W xs ys (ix (wO W xs ys s a) i1)))).length : Nat) : Int) ∧ ((m64 (ptrs W xs ys (ix (wO W xs ys s a) i1))))[(k1 : Int).toNat]? = some (.u (ix (ptrs W xs ys (ix (wO W xs ys s a) i1)) k1))] ⟨(ix_ok (by omega) (by first | omega | (simp only [len_st]; omega) | (simp; done) | (simp; omega) | (simp [len_st, len_stx, len_sty, len_zx, len_zy]; omega))), trivial⟩ ?_
          have h18 : 0 ≤ (ix (ptrs W xs ys (ix (wO W xs ys s a) i1)) k1) ∧ (ix (ptrs W xs ys (ix (wO W xs ys s a) i1)) k1) ≤ 18446744073709551615 := U64s.ix (by first | assumption | exact U64s.st (by assumption) _ (by omega)) _
          refine rk [] 1 4 ⟨[(81, .u (ix (ptrs W xs ys (ix (wO W xs ys s a) i1)) k1)), (77, .sl false 1 (m64 (wO W xs ys s a))), (14, .i k1), (13, .sl false 1 (m64 (ptrs W xs ys (ix (wO W xs ys s a) i1)))), (12, .i i1), (11, .bool (ldK W xs ys (wO W xs ys s a) i1 k1)), (9, .sl false 1 (m64 (wO W xs ys s a))), (7, .t), (5, .i a), (4, .i s), (3, .p 1), (2, .f)], [(1, .cells (mm W xs ys) 25)], 2⟩ [True] ⟨trivial, trivial⟩ ?_
          refine pc (rhas (wO W xs ys s a) (ix (ptrs W xs ys (ix (wO W xs ys s a) i1)) k1) ‹_› ‹_› (by omega)) ?_
          refine rk [] 1 6 ⟨[(15, .bool (hasB (wO W xs ys s a) (ix (ptrs W xs ys (ix (wO W xs ys s a) i1)) k1))), (14, .i k1), (13, .sl false 1 (m64 (ptrs W xs ys (ix (wO W xs ys s a) i1)))), (12, .i i1), (11, .bool (ldK W xs ys (wO W xs ys s a) i1 k1)), (9, .sl false 1 (m64 (wO W xs ys s a))), (7, .t), (5, .i a), (4, .i s), (3, .p 1), (2, .f)], [(1, .cells (mm W xs ys) 25)], 2⟩ [] trivial ?_
          refine en ?_
          refine an ?_
          refine reg ?_
          refine rk [] 2 0 ⟨[(84, .bool (ldK W xs ys (wO W xs ys s a) i1 k1)), (15, .bool (hasB (wO W xs ys s a) (ix (ptrs W xs ys (ix (wO W xs ys s a) i1)) k1))), (14, .i k1), (13, .sl false 1 (m64 (ptrs W xs ys (ix (wO W xs ys s a) i1)))), (12, .i i1), (11, .bool (ldK W xs ys (wO W xs ys s a) i1 k1)), (9, .sl false 1 (m64 (wO W xs ys s a))), (7, .t), (5, .i a), (4, .i s), (3, .p 1), (2, .f)], [(1, .cells (mm W xs ys) 25)], 2⟩ [] trivial ?_
          refine splitr 84 (x := (ldK W xs ys (wO W xs ys s a) i1 k1)) (by kernel_rfl) (fun h19 => ?_) (fun h19 => ?_)
          ·
           replace h19 : ldK W xs ys (wO W xs ys s a) i1 k1 = true := h19
           refine rk [] 11 2 ⟨[(11, .t), (14, .i k1), (13, .sl false 1 (m64 (ptrs W xs ys (ix (wO W xs ys s a) i1)))), (12, .i i1), (9, .sl false 1 (m64 (wO W xs ys s a))), (7, .t), (5, .i a), (4, .i s), (3, .p 1), (2, .f)], [(1, .cells (mm W xs ys) 25)], 2⟩ [True] ⟨trivial, trivial⟩ ?_
           refine en ?_
           refine ib ?_
           refine an ?_
           refine re [(1, .i (k1 + 1))] 3 ⟨[(14, .i (k1 + 1)), (11, .t), (13, .sl false 1 (m64 (ptrs W xs ys (ix (wO W xs ys s a) i1)))), (12, .i i1), (9, .sl false 1 (m64 (wO W xs ys s a))), (7, .t), (5, .i a), (4, .i s), (3, .p 1), (2, .f)], [(1, .cells (mm W xs ys) 25)], 2⟩ [IntKind.i64.wrap (k1 + 1) = (k1 + 1)] ⟨i64_eq (by omega) (by omega), trivial⟩ ?_
           exact ag ⟨(k1 + 1), ⟨(by omega), (by omega)⟩⟩ (le_of [] [((k1 + 1) : Int) = (k1 + 1), (false = true → false = true), ((m64 (ptrs W xs ys (ix (wO W xs ys s a) i1))) : List SV) = (m64 (ptrs W xs ys (ix (wO W xs ys s a) i1))), (i1 : Int) = i1, true = (ldK W xs ys (wO W xs ys s a) i1 (k1 + 1)), (false = true → false = true), ((m64 (wO W xs ys s a)) : List SV) = (m64 (wO W xs ys s a)), true = true, (a : Int) = a, (s : Int) = s, false = false, (W : Int) = W, (false = true → false = true), ((m64 xs) : List SV) = (m64 xs), (false = true → false = true), ((m64 ys) : List SV) = (m64 ys)] (by kernel_rfl) ⟨rfl, id, rfl, rfl, (by first | exact ldB_0 | exact ldK_0 | exact ldK_yes (by omega) (by omega) ‹_› | exact ldK_zero (by omega) (by omega) ‹_› (by omega) | exact ldK_has (by omega) (by omega) ‹_› (by omega) | exact ldB_next (by omega) (by omega) (by omega) | rfl), id, rfl, rfl, rfl, rfl, rfl, rfl, id, rfl, id, rfl, trivial⟩) (by show (((ptrs W xs ys (ix (wO W xs ys s a) i1)).length : Int) - (k1 + 1)).toNat < (((ptrs W xs ys (ix (wO W xs ys s a) i1)).length : Int) - k1).toNat; omega)
          ·
           replace h19 : ldK W xs ys (wO W xs ys s a) i1 k1 = false := h19
           refine rk [(4, .u (ix (ptrs W xs ys (ix (wO W xs ys s a) i1)) k1))] 3 2 ⟨[(87, .elt (.u (ix (ptrs W xs ys (ix (wO W xs ys s a) i1)) k1))), (84, .f), (15, .bool (hasB (wO W xs ys s a) (ix (ptrs W xs ys (ix (wO W xs ys s a) i1)) k1))), (14, .i k1), (13, .sl false 1 (m64 (ptrs W xs ys (ix (wO W xs ys s a) i1)))), (12, .i i1), (11, .bool (ldK W xs ys (wO W xs ys s a) i1 k1)), (9, .sl false 1 (m64 (wO W xs ys s a))), (7, .t), (5, .i a), (4, .i s), (3, .p 1), (2, .f)], [(1, .cells (mm W xs ys) 25)], 2⟩ [(0 : Int) ≤ k1 ∧ k1 < ((((m64 (ptrs W xs ys (ix (wO W xs ys s a) i1)))).length : Nat) : Int) ∧ ((m64 (ptrs W xs ys (ix (wO W xs ys s a) i1))))[(k1 : Int).toNat]? = some (.u (ix (ptrs W xs ys (ix (wO W xs ys s a) i1)) k1))] ⟨(ix_ok (by omega) (by first | omega | (simp only [len_st]; omega) | (simp; done) | (simp; omega) | (simp [len_st, len_stx, len_sty, len_zx, len_zy]; omega))), trivial⟩ ?_
           have h20 : 0 ≤ (ix (ptrs W xs ys (ix (wO W xs ys s a) i1)) k1) ∧ (ix (ptrs W xs ys (ix (wO W xs ys s a) i1)) k1) ≤ 18446744073709551615 := U64s.ix (by first | assumption | exact U64s.st (by assumption) _ (by omega)) _
           refine rk [(6, .bool ((ix (ptrs W xs ys (ix (wO W xs ys s a) i1)) k1) != 0))] 3 5 ⟨[(90, .bool ((ix (ptrs W xs ys (ix (wO W xs ys s a) i1)) k1) != 0)), (84, .f), (15, .bool (hasB (wO W xs ys s a) (ix (ptrs W xs ys (ix (wO W xs ys s a) i1)) k1))), (14, .i k1), (13, .sl false 1 (m64 (ptrs W xs ys (ix (wO W xs ys s a) i1)))), (12, .i i1), (11, .bool (ldK W xs ys (wO W xs ys s a) i1 k1)), (9, .sl false 1 (m64 (wO W xs ys s a))), (7, .t), (5, .i a), (4, .i s), (3, .p 1), (2, .f)], [(1, .cells (mm W xs ys) 25)], 2⟩ [True, ((ix (ptrs W xs ys (ix (wO W xs ys s a) i1)) k1) != 0) = ((ix (ptrs W xs ys (ix (wO W xs ys s a) i1)) k1) != 0)] ⟨trivial, rfl, trivial⟩ ?_
           refine splitr 90 (x := ((ix (ptrs W xs ys (ix (wO W xs ys s a) i1)) k1) != 0)) (by kernel_rfl) (fun h21 => ?_) (fun h21 => ?_)
           ·
            replace h21 : (ix (ptrs W xs ys (ix (wO W xs ys s a) i1)) k1) ≠ 0 := bne_iff_ne.1 h21
            refine rk [] 5 8 ⟨[(11, .bool (!(hasB (wO W xs ys s a) (ix (ptrs W xs ys (ix (wO W xs ys s a) i1)) k1)))), (14, .i k1), (13, .sl false 1 (m64 (ptrs W xs ys (ix (wO W xs ys s a) i1)))), (12, .i i1), (9, .sl false 1 (m64 (wO W xs ys s a))), (7, .t), (5, .i a), (4, .i s), (3, .p 1), (2, .f)], [(1, .cells (mm W xs ys) 25)], 2⟩ [True, True] ⟨trivial, trivial, trivial⟩ ?_
            refine en ?_
            refine ib ?_
            refine an ?_
            refine re [(1, .i (k1 + 1))] 3 ⟨[(14, .i (k1 + 1)), (11, .bool (!(hasB (wO W xs ys s a) (ix (ptrs W xs ys (ix (wO W xs ys s a) i1)) k1)))), (13, .sl false 1 (m64 (ptrs W xs ys (ix (wO W xs ys s a) i1)))), (12, .i i1), (9, .sl false 1 (m64 (wO W xs ys s a))), (7, .t), (5, .i a), (4, .i s), (3, .p 1), (2, .f)], [(1, .cells (mm W xs ys) 25)], 2⟩ [IntKind.i64.wrap (k1 + 1) = (k1 + 1)] ⟨i64_eq (by omega) (by omega), trivial⟩ ?_
            exact ag ⟨(k1 + 1), ⟨(by omega), (by omega)⟩⟩ (le_of [] [((k1 + 1) : Int) = (k1 + 1), (false = true → false = true), ((m64 (ptrs W xs ys (ix (wO W xs ys s a) i1))) : List SV) = (m64 (ptrs W xs ys (ix (wO W xs ys s a) i1))), (i1 : Int) = i1, (!(hasB (wO W xs ys s a) (ix (ptrs W xs ys (ix (wO W xs ys s a) i1)) k1))) = (ldK W xs ys (wO W xs ys s a) i1 (k1 + 1)), (false = true → false = true), ((m64 (wO W xs ys s a)) : List SV) = (m64 (wO W xs ys s a)), true = true, (a : Int) = a, (s : Int) = s, false = false, (W : Int) = W, (false = true → false = true), ((m64 xs) : List SV) = (m64 xs), (false = true → false = true), ((m64 ys) : List SV) = (m64 ys)] (by kernel_rfl) ⟨rfl, id, rfl, rfl, (by first | exact ldB_0 | exact ldK_0 | exact ldK_yes (by omega) (by omega) ‹_› | exact ldK_zero (by omega) (by omega) ‹_› (by omega) | exact ldK_has (by omega) (by omega) ‹_› (by omega) | exact ldB_next (by omega) (by omega) (by omega) | rfl), id, rfl, rfl, rfl, rfl, rfl, rfl, id, rfl, id, rfl, trivial⟩) (by show (((ptrs W xs ys (ix (wO W xs ys s a) i1)).length : Int) - (k1 + 1)).toNat < (((ptrs W xs ys (ix (wO W xs ys s a) i1)).length : Int) - k1).toNat; omega)
           ·
            replace h21 : (ix (ptrs W xs ys (ix (wO W xs ys s a) i1)) k1) = 0 := bne_eq_false_iff_eq.1 h21
            refine rk [] 5 8 ⟨[(11, .f), (14, .i k1), (13, .sl false 1 (m64 (ptrs W xs ys (ix (wO W xs ys s a) i1)))), (12, .i i1), (9, .sl false 1 (m64 (wO W xs ys s a))), (7, .t), (5, .i a), (4, .i s), (3, .p 1), (2, .f)], [(1, .cells (mm W xs ys) 25)], 2⟩ [True, True] ⟨trivial, trivial, trivial⟩ ?_
            refine en ?_
            refine ib ?_
            refine an ?_
            refine re [(1, .i (k1 + 1))] 3 ⟨[(14, .i (k1 + 1)), (11, .f), (13, .sl false 1 (m64 (ptrs W xs ys (ix (wO W xs ys s a) i1)))), (12, .i i1), (9, .sl false 1 (m64 (wO W xs ys s a))), (7, .t), (5, .i a), (4, .i s), (3, .p 1), (2, .f)], [(1, .cells (mm W xs ys) 25)], 2⟩ [IntKind.i64.wrap (k1 + 1) = (k1 + 1)] ⟨i64_eq (by omega) (by omega), trivial⟩ ?_
            exact ag ⟨(k1 + 1), ⟨(by omega), (by omega)⟩⟩ (le_of [] [((k1 + 1) : Int) = (k1 + 1), (false = true → false = true), ((m64 (ptrs W xs ys (ix (wO W xs ys s a) i1))) : List SV) = (m64 (ptrs W xs ys (ix (wO W xs ys s a) i1))), (i1 : Int) = i1, false = (ldK W xs ys (wO W xs ys s a) i1 (k1 + 1)), (false = true → false = true), ((m64 (wO W xs ys s a)) : List SV) = (m64 (wO W xs ys s a)), true = true, (a : Int) = a, (s : Int) = s, false = false, (W : Int) = W, (false = true → false = true), ((m64 xs) : List SV) = (m64 xs), (false = true → false = true), ((m64 ys) : List SV) = (m64 ys)] (by kernel_rfl) ⟨rfl, id, rfl, rfl, (by first | exact ldB_0 | exact ldK_0 | exact ldK_yes (by omega) (by omega) ‹_› | exact ldK_zero (by omega) (by omega) ‹_› (by omega) | exact ldK_has (by omega) (by omega) ‹_› (by omega) | exact ldB_next (by omega) (by omega) (by omega) | rfl), id, rfl, rfl, rfl, rfl, rfl, rfl, id, rfl, id, rfl, trivial⟩) (by show (((ptrs W xs ys (ix (wO W xs ys s a) i1)).length : Int) - (k1 + 1)).toNat < (((ptrs W xs ys (ix (wO W xs ys s a) i1)).length : Int) - k1).toNat; omega)
         ·
          replace h17 : ¬ (k1 < ((ptrs W xs ys (ix (wO W xs ys s a) i1)).length : Int)) := of_decide_eq_false h17
          refine xw_exit ?_
          refine an_exit ?_
          refine ag_exit ?_
          refine ib_same ?_
          refine ib ?_
          refine an ?_
          refine re [(1, .i (i1 + 1))] 3 ⟨[(12, .i (i1 + 1)), (11, .bool (ldK W xs ys (wO W xs ys s a) i1 k1)), (9, .sl false 1 (m64 (wO W xs ys s a))), (7, .t), (5, .i a), (4, .i s), (3, .p 1), (2, .f)], [(1, .cells (mm W xs ys) 25)], 2⟩ [IntKind.i64.wrap (i1 + 1) = (i1 + 1)] ⟨i64_eq (by omega) (by omega), trivial⟩ ?_
          exact ag ⟨(i1 + 1), ⟨(by omega), (by omega)⟩⟩ (le_of [] [((i1 + 1) : Int) = (i1 + 1), (ldK W xs ys (wO W xs ys s a) i1 k1) = (ldB W xs ys (wO W xs ys s a) (i1 + 1)), (false = true → false = true), ((m64 (wO W xs ys s a)) : List SV) = (m64 (wO W xs ys s a)), true = true, (a : Int) = a, (s : Int) = s, false = false, (W : Int) = W, (false = true → false = true), ((m64 xs) : List SV) = (m64 xs), (false = true → false = true), ((m64 ys) : List SV) = (m64 ys)] (by kernel_rfl) ⟨rfl, (by first | exact ldB_0 | exact ldK_0 | exact ldK_yes (by omega) (by omega) ‹_› | exact ldK_zero (by omega) (by omega) ‹_› (by omega) | exact ldK_has (by omega) (by omega) ‹_› (by omega) | exact ldB_next (by omega) (by omega) (by omega) | rfl), id, rfl, rfl, rfl, rfl, rfl, rfl, id, rfl, id, rfl, trivial⟩) (by show (((wO W xs ys s a).length : Int) - (i1 + 1)).toNat < (((wO W xs ys s a).length : Int) - i1).toNat; omega)
        ·
         replace h11 : ¬ (i1 < ((wO W xs ys s a).length : Int)) := of_decide_eq_false h11
         refine xw_exit ?_
         refine an_exit ?_
         refine ag_exit ?_
         refine ib_same ?_
         refine an ?_
         refine xw_seq ?_
         refine reg ?_
         refine rk [] 5 0 ⟨[(99, .i a), (98, .i s), (97, .agg (mm W xs ys)), (96, .t), (11, .bool (ldB W xs ys (wO W xs ys s a) i1)), (2, .f)], [], 2⟩ [True] ⟨trivial, trivial⟩ ?_
         refine pc (wsound_2 W xs ys s a (by omega) (by omega) (by omega) ‹_› ‹_› ‹_› ‹_› (by omega) ‹_›) ?_
         have h12 : ((snB W xs ys (wO W xs ys s a) ((wO W xs ys s a).length : Int)) = true ∧ (ldB W xs ys (wO W xs ys s a) i1) = false) ∨ ((snB W xs ys (wO W xs ys s a) ((wO W xs ys s a).length : Int)) = false ∧ (ldB W xs ys (wO W xs ys s a) i1) = true) := ldB_end (by omega)
         refine rk [] 2 6 ⟨[(102, .bool (!(ldB W xs ys (wO W xs ys s a) i1))), (100, .bool (snB W xs ys (wO W xs ys s a) ((wO W xs ys s a).length : Int))), (96, .t), (2, .f)], [], 2⟩ [] trivial ?_
         by_cases h13 : snB W xs ys (wO W xs ys s a) ((wO W xs ys s a).length : Int) = true
         ·
          refine rk [(8, .t)] 3 8 ⟨[(2, .t)], [], 2⟩ [((snB W xs ys (wO W xs ys s a) ((wO W xs ys s a).length : Int)) == (!(ldB W xs ys (wO W xs ys s a) i1))) = true, True] ⟨(by rw [show (snB W xs ys (wO W xs ys s a) ((wO W xs ys s a).length : Int)) = true from (by first | exact decide_eq_true (by omega) | exact decide_eq_false (by omega) | (simp; done) | (simp; omega) | simp_all | grind), show (!(ldB W xs ys (wO W xs ys s a) i1)) = true from (by first | exact decide_eq_true (by omega) | exact decide_eq_false (by omega) | (simp; done) | (simp; omega) | simp_all | grind)]; rfl), trivial, trivial⟩ ?_
          refine en ?_
          refine an ?_
          refine xw_ret ?_
          exact bs (.t) rfl
         ·
          refine rk [(8, .t)] 3 8 ⟨[(2, .t)], [], 2⟩ [((snB W xs ys (wO W xs ys s a) ((wO W xs ys s a).length : Int)) == (!(ldB W xs ys (wO W xs ys s a) i1))) = true, True] ⟨(by rw [show (snB W xs ys (wO W xs ys s a) ((wO W xs ys s a).length : Int)) = false from (by first | exact decide_eq_true (by omega) | exact decide_eq_false (by omega) | (simp; done) | (simp; omega) | simp_all | grind), show (!(ldB W xs ys (wO W xs ys s a) i1)) = false from (by first | exact decide_eq_true (by omega) | exact decide_eq_false (by omega) | (simp; done) | (simp; omega) | simp_all | grind)]; rfl), trivial, trivial⟩ ?_
          refine en ?_
          refine an ?_
          refine xw_ret ?_
          exact bs (.t) rfl
       ·
        refine pc (wobjects_3 W xs ys s a (by omega) (by omega) (by omega) ‹_› ‹_› ‹_› ‹_› (by omega) ‹_›) ?_
        refine rk [] 5 4 ⟨[(10, .i (wE W xs ys s a)), (9, .nils), (7, .t), (5, .i a), (4, .i s), (3, .p 1), (2, .f)], [(1, .cells (mm W xs ys) 25)], 2⟩ [] trivial ?_
        refine en ?_
        refine an ?_
        refine xw_seq ?_
        refine rg [(1, .t)] 2 ⟨[(50, .t), (9, .nils), (7, .t), (5, .i a), (4, .i s), (3, .p 1), (2, .f)], [(1, .cells (mm W xs ys) 25)], 2⟩ [((wE W xs ys s a) != 0) = true] ⟨bne_iff_ne.2 (by omega), trivial⟩ ?_
        refine ct ?_
        refine xw_seq ?_
        refine reg ?_
        refine rk [] 5 0 ⟨[(55, .i a), (54, .i s), (53, .agg (mm W xs ys)), (52, .t), (9, .nils), (7, .t), (5, .i a), (4, .i s), (3, .p 1), (2, .f)], [(1, .cells (mm W xs ys) 25)], 2⟩ [True] ⟨trivial, trivial⟩ ?_
        refine pc (wsound_3 W xs ys s a (by omega) (by omega) (by omega) ‹_› ‹_› ‹_› ‹_› (by omega) ‹_›) ?_
        refine rk [] 3 6 ⟨[(2, .t), (9, .nils), (7, .t), (5, .i a), (4, .i s), (3, .p 1)], [(1, .cells (mm W xs ys) 25)], 2⟩ [True] ⟨trivial, trivial⟩ ?_
        refine en ?_
        refine an ?_
        refine xw_ret ?_
        refine an_ret ?_
        exact bs (.t) rfl
    ·
     refine pc (wsound_3 W xs ys s b (by omega) (by omega) (by omega) ‹_› ‹_› ‹_› ‹_› (by omega) ‹_›) ?_
     refine rk [] 2 12 ⟨[(40, .t), (7, .t), (5, .i a), (4, .i s), (3, .p 1), (2, .f)], [(1, .cells (mm W xs ys) 25)], 2⟩ [True] ⟨trivial, trivial⟩ ?_
     refine en ?_
     refine an ?_
     refine ct ?_
     refine rg [] 2 ⟨[(2, .t), (7, .t), (5, .i a), (4, .i s), (3, .p 1)], [(1, .cells (mm W xs ys) 25)], 2⟩ [] trivial ?_
     refine xw_ret ?_
     refine an_ret ?_
     exact bs (.t) rfl
 ·
  refine pc (few6_2 W xs ys ‹_› ‹_›) ?_
  refine rk [] 1 2 ⟨[(8, .f), (7, .t), (6, .i b), (5, .i a), (4, .i s), (3, .p 1), (2, .f)], [(1, .cells (mm W xs ys) 25)], 2⟩ [] trivial ?_
  refine en ?_
  refine an ?_
  refine xw_seq ?_
  refine rg [] 14 ⟨[(40, .t), (7, .t), (5, .i a), (4, .i s), (3, .p 1), (2, .f)], [(1, .cells (mm W xs ys) 25)], 2⟩ [True, True] ⟨trivial, trivial, trivial⟩ ?_
  refine ct ?_
  refine rg [] 2 ⟨[(2, .t), (7, .t), (5, .i a), (4, .i s), (3, .p 1)], [(1, .cells (mm W xs ys) 25)], 2⟩ [] trivial ?_
  refine xw_ret ?_
  refine an_ret ?_
  exact bs (.t) rfl

end Go.Proofs.Ytlapjlbmhaalbaa.X
