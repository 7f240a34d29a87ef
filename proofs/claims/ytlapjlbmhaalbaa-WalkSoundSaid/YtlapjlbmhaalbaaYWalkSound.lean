/- Contracts of Go functions: what each returns, for every input that its premises name; no memory of the caller is touched. Printed by a program. -/
import Derived.Test.YtlapjlbmhaalbaaXh3
import Derived.Test.YtlapjlbmhaalbaaXh4
namespace Go.Proofs.Ytlapjlbmhaalbaa.X
open Go Go.RowKit
set_option linter.unusedVariables false      -- a premise may serve only to tell which way is taken
set_option linter.unusedSimpArgs false
theorem walkSound (W : Int) (xs ys : List Int) (s lim i : Int) (hp0 : -9223372036854775808 ≤ W ∧ W ≤ 9223372036854775807) (hp1 : U64s xs) (hp2 : U64s ys) (hp3 : -9223372036854775808 ≤ s ∧ s ≤ 9223372036854775807) (hp4 : -9223372036854775808 ≤ lim ∧ lim ≤ 9223372036854775807) (hp5 : -9223372036854775808 ≤ i ∧ i ≤ 9223372036854775807) : Pub Try.prog 6 [.agg (mr W xs ys [.i s, .i lim, .i i])] (fun rv => rv = .t) := by
 refine pub_of TT_ok Try.func6 rfl (by decide) (Nat.le_of_ble_eq_true (by kernel_rfl)) (by kernel_rfl) ?_
 refine rg [] 2 ⟨[(2, .f), (1, .p 0)], [(0, .cells (mr W xs ys [.i s, .i lim, .i i]) 44)], 1⟩ [] trivial ?_
 refine rg [] 4 ⟨[(3, .p 1), (2, .f), (1, .p 0)], [(1, .cells (mm W xs ys) 25), (0, .cells (mr W xs ys [.i s, .i lim, .i i]) 44)], 2⟩ [True, True] ⟨trivial, trivial, trivial⟩ ?_
 refine rg [] 3 ⟨[(4, .i s), (3, .p 1), (2, .f), (1, .p 0)], [(1, .cells (mm W xs ys) 25), (0, .cells (mr W xs ys [.i s, .i lim, .i i]) 44)], 2⟩ [True] ⟨trivial, trivial⟩ ?_
 refine rg [] 3 ⟨[(5, .i lim), (4, .i s), (3, .p 1), (2, .f), (1, .p 0)], [(1, .cells (mm W xs ys) 25), (0, .cells (mr W xs ys [.i s, .i lim, .i i]) 44)], 2⟩ [True] ⟨trivial, trivial⟩ ?_
 refine rg [] 3 ⟨[(6, .i i), (5, .i lim), (4, .i s), (3, .p 1), (2, .f)], [(1, .cells (mm W xs ys) 25)], 2⟩ [True] ⟨trivial, trivial⟩ ?_
 refine xw_seq ?_
 refine reg ?_
 refine pc (shown6 ) ?_
 refine rk [] 1 1 ⟨[(7, .t), (6, .i i), (5, .i lim), (4, .i s), (3, .p 1), (2, .f)], [(1, .cells (mm W xs ys) 25)], 2⟩ [] trivial ?_
 refine en ?_
 refine an ?_
 refine xw_seq ?_
 refine reg ?_
 refine rk [] 1 0 ⟨[(23, .agg (mm W xs ys)), (7, .t), (6, .i i), (5, .i lim), (4, .i s), (3, .p 1), (2, .f)], [(1, .cells (mm W xs ys) 25)], 2⟩ [True] ⟨trivial, trivial⟩ ?_
 by_cases h0 : 16 ≤ W ∧ W ≤ 200 ∧ (xs.length : Int) = W ∧ (ys.length : Int) = W
 ·
  refine pc (few6_1 W xs ys ‹_› ‹_›) ?_
  refine rk [] 1 2 ⟨[(8, .t), (7, .t), (6, .i i), (5, .i lim), (4, .i s), (3, .p 1), (2, .f)], [(1, .cells (mm W xs ys) 25)], 2⟩ [] trivial ?_
  refine en ?_
  refine an ?_
  refine xw_seq ?_
  refine rg [] 2 ⟨[(26, .f), (7, .t), (6, .i i), (5, .i lim), (4, .i s), (3, .p 1), (2, .f)], [(1, .cells (mm W xs ys) 25)], 2⟩ [] trivial ?_
  refine cf ?_
  refine xw_skip ?_
  refine an ?_
  refine xw_seq ?_
  refine reg ?_
  refine rk [] 3 0 ⟨[(31, .i lim), (30, .i s), (29, .agg (mm W xs ys)), (7, .t), (6, .i i), (5, .i lim), (4, .i s), (3, .p 1), (2, .f)], [(1, .cells (mm W xs ys) 25)], 2⟩ [True] ⟨trivial, trivial⟩ ?_
  by_cases h1 : ¬ (0 ≤ s ∧ s ≤ 1 ∧ 0 ≤ lim ∧ lim ≤ W)
  ·
   refine pc (wobjects_1 W xs ys s lim (by omega) (by omega) (by omega) ‹_› ‹_› ‹_› ‹_› ‹_›) ?_
   refine rk [] 5 4 ⟨[(10, .i 1), (9, .nils), (7, .t), (6, .i i), (5, .i lim), (4, .i s), (3, .p 1), (2, .f)], [(1, .cells (mm W xs ys) 25)], 2⟩ [] trivial ?_
   refine en ?_
   refine an ?_
   refine xw_seq ?_
   refine rg [(1, .t)] 19 ⟨[(53, .t), (9, .nils), (7, .t), (6, .i i), (3, .p 1), (2, .f)], [(1, .cells (mm W xs ys) 25)], 2⟩ [(1 != 0) = true, True, True, True] ⟨bne_iff_ne.2 (by omega), trivial, trivial, trivial, trivial⟩ ?_
   refine ct ?_
   refine rg [] 2 ⟨[(2, .t), (9, .nils), (7, .t), (6, .i i), (3, .p 1)], [(1, .cells (mm W xs ys) 25)], 2⟩ [] trivial ?_
   refine xw_ret ?_
   refine an_ret ?_
   exact bs (.t) rfl
  ·
   by_cases h2 : (wE W xs ys s lim) = 0
   ·
    refine pc (wobjects_2 W xs ys s lim (by omega) (by omega) (by omega) ‹_› ‹_› ‹_› ‹_› (by omega) ‹_›) ?_
    obtain ⟨h3, h4⟩ := wO_ok W xs ys s lim (by omega) (by omega)
    refine rk [] 5 4 ⟨[(10, .i 0), (9, .sl false 1 (m64 (wO W xs ys s lim))), (7, .t), (6, .i i), (5, .i lim), (4, .i s), (3, .p 1), (2, .f)], [(1, .cells (mm W xs ys) 25)], 2⟩ [] trivial ?_
    refine en ?_
    refine an ?_
    refine xw_seq ?_
    refine xw_seq ?_
    refine reg ?_
    refine rk [(1, .f), (4, .bool (decide (i < 0)))] 7 0 ⟨[(41, .bool (decide (i < 0))), (9, .sl false 1 (m64 (wO W xs ys s lim))), (7, .t), (6, .i i), (5, .i lim), (4, .i s), (3, .p 1), (2, .f)], [(1, .cells (mm W xs ys) 25)], 2⟩ [(0 != 0) = false, (decide (i < 0)) = (decide (i < 0)), True] ⟨bne_eq_false_iff_eq.2 (by omega), rfl, trivial, trivial⟩ ?_
    refine splitr 41 (x := (decide (i < 0))) (by kernel_rfl) (fun h5 => ?_) (fun h5 => ?_)
    ·
     replace h5 : i < 0 := of_decide_eq_true h5
     refine rk [] 12 7 ⟨[(53, .t), (9, .sl false 1 (m64 (wO W xs ys s lim))), (7, .t), (6, .i i), (3, .p 1), (2, .f)], [(1, .cells (mm W xs ys) 25)], 2⟩ [True, True] ⟨trivial, trivial, trivial⟩ ?_
     refine en ?_
     refine an ?_
     refine ct ?_
     refine rg [] 2 ⟨[(2, .t), (9, .sl false 1 (m64 (wO W xs ys s lim))), (7, .t), (6, .i i), (3, .p 1)], [(1, .cells (mm W xs ys) 25)], 2⟩ [] trivial ?_
     refine xw_ret ?_
     refine an_ret ?_
     exact bs (.t) rfl
    ·
     replace h5 : ¬ (i < 0) := of_decide_eq_false h5
     refine rk [(9, .i (((wO W xs ys s lim)).length : Int)), (10, .bool (decide ((((wO W xs ys s lim)).length : Int) ≤ i)))] 6 7 ⟨[(47, .bool (decide ((((wO W xs ys s lim)).length : Int) ≤ i))), (9, .sl false 1 (m64 (wO W xs ys s lim))), (7, .t), (6, .i i), (5, .i lim), (4, .i s), (3, .p 1), (2, .f)], [(1, .cells (mm W xs ys) 25)], 2⟩ [((((m64 (wO W xs ys s lim))).length : Nat) : Int) = (((wO W xs ys s lim)).length : Int), (decide ((((wO W xs ys s lim)).length : Int) ≤ i)) = (decide ((((wO W xs ys s lim)).length : Int) ≤ i)), True] ⟨(by simp), rfl, trivial, trivial⟩ ?_
     refine splitr 47 (x := (decide ((((wO W xs ys s lim)).length : Int) ≤ i))) (by kernel_rfl) (fun h6 => ?_) (fun h6 => ?_)
     ·
      replace h6 : ((wO W xs ys s lim).length : Int) ≤ i := of_decide_eq_true h6
      refine rk [] 6 13 ⟨[(53, .t), (9, .sl false 1 (m64 (wO W xs ys s lim))), (7, .t), (6, .i i), (3, .p 1), (2, .f)], [(1, .cells (mm W xs ys) 25)], 2⟩ [True] ⟨trivial, trivial⟩ ?_
      refine en ?_
      refine an ?_
      refine ct ?_
      refine rg [] 2 ⟨[(2, .t), (9, .sl false 1 (m64 (wO W xs ys s lim))), (7, .t), (6, .i i), (3, .p 1)], [(1, .cells (mm W xs ys) 25)], 2⟩ [] trivial ?_
      refine xw_ret ?_
      refine an_ret ?_
      exact bs (.t) rfl
     ·
      replace h6 : ¬ (((wO W xs ys s lim).length : Int) ≤ i) := of_decide_eq_false h6
      refine rk [] 3 13 ⟨[(50, .i lim), (49, .i s), (48, .agg (mm W xs ys)), (47, .f), (9, .sl false 1 (m64 (wO W xs ys s lim))), (7, .t), (6, .i i), (3, .p 1), (2, .f)], [(1, .cells (mm W xs ys) 25)], 2⟩ [True] ⟨trivial, trivial⟩ ?_
      refine pc (wsound_2 W xs ys s lim (by omega) (by omega) (by omega) ‹_› ‹_› ‹_› ‹_› (by omega) ‹_›) ?_
      refine rk [] 2 17 ⟨[(53, .bool (!(snB W xs ys (wO W xs ys s lim) ((wO W xs ys s lim).length : Int)))), (9, .sl false 1 (m64 (wO W xs ys s lim))), (7, .t), (6, .i i), (3, .p 1), (2, .f)], [(1, .cells (mm W xs ys) 25)], 2⟩ [True] ⟨trivial, trivial⟩ ?_
      refine en ?_
      refine an ?_
      refine xw_cond (b := (!(snB W xs ys (wO W xs ys s lim) ((wO W xs ys s lim).length : Int)))) (by kernel_rfl) (fun h7 => ?_) (fun h7 => ?_)
      ·
       replace h7 : snB W xs ys (wO W xs ys s lim) ((wO W xs ys s lim).length : Int) = false := by first | (simp; done) | simpa using h7 | (simp at h7; omega)
       refine rg [] 2 ⟨[(2, .t), (9, .sl false 1 (m64 (wO W xs ys s lim))), (7, .t), (6, .i i), (3, .p 1)], [(1, .cells (mm W xs ys) 25)], 2⟩ [] trivial ?_
       refine xw_ret ?_
       refine an_ret ?_
       exact bs (.t) rfl
      ·
       replace h7 : snB W xs ys (wO W xs ys s lim) ((wO W xs ys s lim).length : Int) = true := by first | (simp; done) | simpa using h7
       refine xw_skip ?_
       refine an ?_
       refine xw_seq ?_
       refine sreg hmix [([(1, .cells (mm W xs ys) 25)], 2)] [] [(3, [1, 2]), (4, [1, 2, 3]), (5, [1, 2, 3, 4]), (6, [0, 1, 2, 3, 4, 5]), (7, [0, 1, 2, 3, 4, 5, 6])] (by kernel_rfl) (by kernel_rfl) (by kernel_rfl) (by kernel_rfl) (by kernel_rfl) ?_
       refine sr [(3, .u (ix (wO W xs ys s lim) i))] 4 0 [(58, .elt (.u (ix (wO W xs ys s lim) i))), (57, .i i), (56, .sl false 1 (m64 (wO W xs ys s lim))), (55, .agg (mm W xs ys)), (53, .bool (!(snB W xs ys (wO W xs ys s lim) ((wO W xs ys s lim).length : Int)))), (9, .sl false 1 (m64 (wO W xs ys s lim))), (7, .t), (6, .i i), (3, .p 1), (2, .f)] [True, True, True, (0 : Int) ≤ i ∧ i < ((((m64 (wO W xs ys s lim))).length : Nat) : Int) ∧ ((m64 (wO W xs ys s lim)))[(i : Int).toNat]? = some (.u (ix (wO W xs ys s lim) i))] ⟨trivial, trivial, trivial, (ix_ok (by omega) (by first | omega | (simp only [len_st]; omega) | (simp; done) | (simp; omega) | (simp [len_st, len_stx, len_sty, len_zx, len_zy]; omega))), trivial⟩ ?_
       have h8 : 0 ≤ (ix (wO W xs ys s lim) i) ∧ (ix (wO W xs ys s lim) i) ≤ 18446744073709551615 := U64s.ix (by first | assumption | exact U64s.st (by assumption) _ (by omega)) _
       refine sr [(5, .t)] 2 4 [(60, .sl false 1 [.u (ix (wO W xs ys s lim) i)]), (59, .u (ix (wO W xs ys s lim) i)), (58, .elt (.u (ix (wO W xs ys s lim) i))), (57, .i i), (56, .sl false 1 (m64 (wO W xs ys s lim))), (55, .agg (mm W xs ys)), (53, .bool (!(snB W xs ys (wO W xs ys s lim) ((wO W xs ys s lim).length : Int)))), (9, .sl false 1 (m64 (wO W xs ys s lim))), (7, .t), (6, .i i), (3, .p 1), (2, .f)] [True, True] ⟨trivial, trivial, trivial⟩ ?_
       refine scall (args := [.agg (mm W xs ys), .sl false 1 [.u (ix (wO W xs ys s lim) i)]]) (args' := [.agg (mm W xs ys), .sl false 1 (m64 [(ix (wO W xs ys s lim) i)])]) (d := (some 61)) (sv := .sl false 1 (m64 (rch W xs ys [(ix (wO W xs ys s lim) i)]))) (by kernel_rfl) (by kernel_rfl) (wreach W xs ys [(ix (wO W xs ys s lim) i)] (by omega) (by omega) (by omega) ‹_› ‹_› (by first | omega | assumption | rfl | (rw [len_zx]; assumption) | (rw [len_zy]; assumption) | exact U64s.zx (by assumption) _ _ | exact U64s.zy (by assumption) _ _ | exact U64s.rep _ | decide | (simp; done) | exact U64s.cons (by omega) U64s.nil | (simp; omega)) (by first | omega | assumption | rfl | (rw [len_zx]; assumption) | (rw [len_zy]; assumption) | exact U64s.zx (by assumption) _ _ | exact U64s.zy (by assumption) _ _ | exact U64s.rep _ | decide | (simp; done) | exact U64s.cons (by omega) U64s.nil | (simp; omega))) [(W : Int) = W, (false = true → false = true), ((m64 xs) : List SV) = (m64 xs), (false = true → false = true), ((m64 ys) : List SV) = (m64 ys), (false = true → false = true), ([.u (ix (wO W xs ys s lim) i)] : List SV) = (m64 [(ix (wO W xs ys s lim) i)])] (by kernel_rfl) ⟨rfl, id, rfl, id, rfl, id, rfl, trivial⟩ (by kernel_rfl) ?_
       obtain ⟨h9, h10⟩ := rch_okx W xs ys [(ix (wO W xs ys s lim) i)] (by omega)
       have h11 : 1 ≤ ((rch W xs ys [(ix (wO W xs ys s lim) i)]).length : Int) := reach1 (by omega) (by omega) (by omega) (by omega)
       refine sr [] 1 7 [(11, .sl false 1 (m64 (rch W xs ys [(ix (wO W xs ys s lim) i)]))), (61, .sl false 1 (m64 (rch W xs ys [(ix (wO W xs ys s lim) i)]))), (60, .sl false 1 [.u (ix (wO W xs ys s lim) i)]), (59, .u (ix (wO W xs ys s lim) i)), (58, .elt (.u (ix (wO W xs ys s lim) i))), (57, .i i), (56, .sl false 1 (m64 (wO W xs ys s lim))), (55, .agg (mm W xs ys)), (53, .bool (!(snB W xs ys (wO W xs ys s lim) ((wO W xs ys s lim).length : Int)))), (9, .sl false 1 (m64 (wO W xs ys s lim))), (7, .t), (6, .i i), (3, .p 1), (2, .f)] [True] ⟨trivial, trivial⟩ ?_
       refine sen ?_
       refine an ?_
       refine xw_seq ?_
       refine rg [] 1 ⟨[(12, .i 0), (11, .sl false 1 (m64 (rch W xs ys [(ix (wO W xs ys s lim) i)]))), (9, .sl false 1 (m64 (wO W xs ys s lim))), (7, .t), (2, .f)], [], 2⟩ [] trivial ?_
       refine xw_block ?_
       refine xw_loop (α := {q : Int // (0 ≤ q) ∧ (q ≤ ((rch W xs ys [(ix (wO W xs ys s lim) i)]).length : Int))}) (fun p => ⟨[(12, .i p.1), (11, .sl false 1 (m64 (rch W xs ys [(ix (wO W xs ys s lim) i)]))), (9, .sl false 1 (m64 (wO W xs ys s lim))), (7, .t), (2, .f)], [], 2⟩) (fun p => (((rch W xs ys [(ix (wO W xs ys s lim) i)]).length : Int) - p.1).toNat) ⟨0, ⟨(by omega), (by omega)⟩⟩ (le_of [] [(0 : Int) = 0, (false = true → false = true), ((m64 (rch W xs ys [(ix (wO W xs ys s lim) i)])) : List SV) = (m64 (rch W xs ys [(ix (wO W xs ys s lim) i)])), (false = true → false = true), ((m64 (wO W xs ys s lim)) : List SV) = (m64 (wO W xs ys s lim)), true = true, false = false] (by kernel_rfl) ⟨rfl, id, rfl, id, rfl, rfl, rfl, trivial⟩) ?_
       rintro ⟨k1, h12, h13⟩
       show XW _ _ _ _ _ _ ⟨[(12, .int .i64 k1), (11, .sl false 1 (m64 (rch W xs ys [(ix (wO W xs ys s lim) i)]))), (9, .sl false 1 (m64 (wO W xs ys s lim))), (7, .bool true), (2, .bool false)], [], 2⟩
       have h14 : ((rch W xs ys [(ix (wO W xs ys s lim) i)]).length : Int) ≤ k1 ∨ hasB (wO W xs ys s lim) (ix (rch W xs ys [(ix (wO W xs ys s lim) i)]) k1) = true := sound_ix ‹_› (by omega) (by omega) (by omega)
       refine xw_seq ?_
       refine rg [(2, .i (((rch W xs ys [ (ix (wO W xs ys s lim) i) ])).length : Int)), (3, .bool (decide (k1 < (((rch W xs ys [ (ix (wO W xs ys s lim) i) ])).length : Int))))] 4 ⟨[(65, .bool (decide (k1 < (((rch W xs ys [ (ix (wO W xs ys s lim) i) ])).length : Int)))), (12, .i k1), (11, .sl false 1 (m64 (rch W xs ys [(ix (wO W xs ys s lim) i)]))), (9, .sl false 1 (m64 (wO W xs ys s lim))), (7, .t), (2, .f)], [], 2⟩ [((((m64 (rch W xs ys [(ix (wO W xs ys s lim) i)]))).length : Nat) : Int) = (((rch W xs ys [ (ix (wO W xs ys s lim) i) ])).length : Int), (decide (k1 < (((rch W xs ys [ (ix (wO W xs ys s lim) i) ])).length : Int))) = (decide (k1 < (((rch W xs ys [ (ix (wO W xs ys s lim) i) ])).length : Int)))] ⟨(by simp), rfl, trivial⟩ ?_
       refine xw_cond (b := (decide (k1 < (((rch W xs ys [ (ix (wO W xs ys s lim) i) ])).length : Int)))) (by kernel_rfl) (fun h15 => ?_) (fun h15 => ?_)
       ·
        replace h15 : k1 < ((rch W xs ys [ (ix (wO W xs ys s lim) i) ]).length : Int) := of_decide_eq_true h15
        refine xw_skip ?_
        refine an ?_
        refine xw_seq ?_
        refine xw_block ?_
        refine xw_seq ?_
        refine reg ?_
        refine rk [(3, .u (ix (rch W xs ys [ (ix (wO W xs ys s lim) i) ]) k1))] 4 0 ⟨[(71, .elt (.u (ix (rch W xs ys [ (ix (wO W xs ys s lim) i) ]) k1))), (68, .sl false 1 (m64 (wO W xs ys s lim))), (12, .i k1), (11, .sl false 1 (m64 (rch W xs ys [(ix (wO W xs ys s lim) i)]))), (9, .sl false 1 (m64 (wO W xs ys s lim))), (7, .t), (2, .f)], [], 2⟩ [(0 : Int) ≤ k1 ∧ k1 < ((((m64 (rch W xs ys [(ix (wO W xs ys s lim) i)]))).length : Nat) : Int) ∧ ((m64 (rch W xs ys [(ix (wO W xs ys s lim) i)])))[(k1 : Int).toNat]? = some (.u (ix (rch W xs ys [ (ix (wO W xs ys s lim) i) ]) k1))] ⟨(ix_ok (by omega) (by first | omega | (simp only [len_st]; omega) | (simp; done) | (simp; omega) | (simp [len_st, len_stx, len_sty, len_zx, len_zy]; omega))), trivial⟩ ?_
        have h16 : 0 ≤ (ix (rch W xs ys [ (ix (wO W xs ys s lim) i) ]) k1) ∧ (ix (rch W xs ys [ (ix (wO W xs ys s lim) i) ]) k1) ≤ 18446744073709551615 := U64s.ix (by first | assumption | exact U64s.st (by assumption) _ (by omega)) _
        refine rk [] 1 4 ⟨[(72, .u (ix (rch W xs ys [ (ix (wO W xs ys s lim) i) ]) k1)), (68, .sl false 1 (m64 (wO W xs ys s lim))), (12, .i k1), (11, .sl false 1 (m64 (rch W xs ys [(ix (wO W xs ys s lim) i)]))), (9, .sl false 1 (m64 (wO W xs ys s lim))), (7, .t), (2, .f)], [], 2⟩ [True] ⟨trivial, trivial⟩ ?_
        refine pc (rhas (wO W xs ys s lim) (ix (rch W xs ys [ (ix (wO W xs ys s lim) i) ]) k1) ‹_› ‹_› (by omega)) ?_
        refine rk [] 1 6 ⟨[(13, .bool (hasB (wO W xs ys s lim) (ix (rch W xs ys [ (ix (wO W xs ys s lim) i) ]) k1))), (12, .i k1), (11, .sl false 1 (m64 (rch W xs ys [(ix (wO W xs ys s lim) i)]))), (9, .sl false 1 (m64 (wO W xs ys s lim))), (7, .t), (2, .f)], [], 2⟩ [] trivial ?_
        refine en ?_
        refine an ?_
        refine rg [] 2 ⟨[(75, .bool (!(hasB (wO W xs ys s lim) (ix (rch W xs ys [ (ix (wO W xs ys s lim) i) ]) k1)))), (12, .i k1), (11, .sl false 1 (m64 (rch W xs ys [(ix (wO W xs ys s lim) i)]))), (9, .sl false 1 (m64 (wO W xs ys s lim))), (7, .t), (2, .f)], [], 2⟩ [] trivial ?_
        refine xw_cond (b := (!(hasB (wO W xs ys s lim) (ix (rch W xs ys [ (ix (wO W xs ys s lim) i) ]) k1)))) (by kernel_rfl) (fun h17 => ?_) (fun h17 => ?_)
        ·
         replace h17 : hasB (wO W xs ys s lim) (ix (rch W xs ys [ (ix (wO W xs ys s lim) i) ]) k1) = false := by first | (simp; done) | simpa using h17 | (simp at h17; omega)
         exfalso; first | omega | (simp_all; done) | (simp_all; omega) | grind
        ·
         replace h17 : hasB (wO W xs ys s lim) (ix (rch W xs ys [ (ix (wO W xs ys s lim) i) ]) k1) = true := by first | (simp; done) | simpa using h17
         refine xw_skip ?_
         refine ib ?_
         refine an ?_
         refine re [(1, .i (k1 + 1))] 3 ⟨[(12, .i (k1 + 1)), (11, .sl false 1 (m64 (rch W xs ys [(ix (wO W xs ys s lim) i)]))), (9, .sl false 1 (m64 (wO W xs ys s lim))), (7, .t), (2, .f)], [], 2⟩ [IntKind.i64.wrap (k1 + 1) = (k1 + 1)] ⟨i64_eq (by omega) (by omega), trivial⟩ ?_
         exact ag ⟨(k1 + 1), ⟨(by omega), (by omega)⟩⟩ (le_of [] [((k1 + 1) : Int) = (k1 + 1), (false = true → false = true), ((m64 (rch W xs ys [(ix (wO W xs ys s lim) i)])) : List SV) = (m64 (rch W xs ys [(ix (wO W xs ys s lim) i)])), (false = true → false = true), ((m64 (wO W xs ys s lim)) : List SV) = (m64 (wO W xs ys s lim)), true = true, false = false] (by kernel_rfl) ⟨rfl, id, rfl, id, rfl, rfl, rfl, trivial⟩) (by show (((rch W xs ys [(ix (wO W xs ys s lim) i)]).length : Int) - (k1 + 1)).toNat < (((rch W xs ys [(ix (wO W xs ys s lim) i)]).length : Int) - k1).toNat; omega)
       ·
        replace h15 : ¬ (k1 < ((rch W xs ys [ (ix (wO W xs ys s lim) i) ]).length : Int)) := of_decide_eq_false h15
        refine xw_exit ?_
        refine an_exit ?_
        refine ag_exit ?_
        refine ib_same ?_
        refine an ?_
        refine rg [(3, .i (((rch W xs ys [ (ix (wO W xs ys s lim) i) ])).length : Int)), (4, .t)] 7 ⟨[(2, .t)], [], 2⟩ [((((m64 (rch W xs ys [(ix (wO W xs ys s lim) i)]))).length : Nat) : Int) = (((rch W xs ys [ (ix (wO W xs ys s lim) i) ])).length : Int), (decide (1 ≤ (((rch W xs ys [ (ix (wO W xs ys s lim) i) ])).length : Int))) = true, True] ⟨(by simp), decide_eq_true (by omega), trivial, trivial⟩ ?_
        refine xw_ret ?_
        exact bs (.t) rfl
   ·
    refine pc (wobjects_3 W xs ys s lim (by omega) (by omega) (by omega) ‹_› ‹_› ‹_› ‹_› (by omega) ‹_›) ?_
    refine rk [] 5 4 ⟨[(10, .i (wE W xs ys s lim)), (9, .nils), (7, .t), (6, .i i), (5, .i lim), (4, .i s), (3, .p 1), (2, .f)], [(1, .cells (mm W xs ys) 25)], 2⟩ [] trivial ?_
    refine en ?_
    refine an ?_
    refine xw_seq ?_
    refine rg [(1, .t)] 19 ⟨[(53, .t), (9, .nils), (7, .t), (6, .i i), (3, .p 1), (2, .f)], [(1, .cells (mm W xs ys) 25)], 2⟩ [((wE W xs ys s lim) != 0) = true, True, True, True] ⟨bne_iff_ne.2 (by omega), trivial, trivial, trivial, trivial⟩ ?_
    refine ct ?_
    refine rg [] 2 ⟨[(2, .t), (9, .nils), (7, .t), (6, .i i), (3, .p 1)], [(1, .cells (mm W xs ys) 25)], 2⟩ [] trivial ?_
    refine xw_ret ?_
    refine an_ret ?_
    exact bs (.t) rfl
 ·
  refine pc (few6_2 W xs ys ‹_› ‹_›) ?_
  refine rk [] 1 2 ⟨[(8, .f), (7, .t), (6, .i i), (5, .i lim), (4, .i s), (3, .p 1), (2, .f)], [(1, .cells (mm W xs ys) 25)], 2⟩ [] trivial ?_
  refine en ?_
  refine an ?_
  refine xw_seq ?_
  refine rg [] 2 ⟨[(26, .t), (7, .t), (6, .i i), (5, .i lim), (4, .i s), (3, .p 1), (2, .f)], [(1, .cells (mm W xs ys) 25)], 2⟩ [] trivial ?_
  refine ct ?_
  refine rg [] 2 ⟨[(2, .t), (7, .t), (6, .i i), (5, .i lim), (4, .i s), (3, .p 1)], [(1, .cells (mm W xs ys) 25)], 2⟩ [] trivial ?_
  refine xw_ret ?_
  refine an_ret ?_
  exact bs (.t) rfl

end Go.Proofs.Ytlapjlbmhaalbaa.X
