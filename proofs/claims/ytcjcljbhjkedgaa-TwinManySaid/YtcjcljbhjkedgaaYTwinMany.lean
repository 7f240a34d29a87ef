/- Contracts of Go functions: what each returns, for every input that its premises name; no memory of the caller is touched. Printed by a program. -/
import Derived.Test.YtcjcljbhjkedgaaXf3
namespace Go.Proofs.Ytcjcljbhjkedgaa.X
open Go Go.RowKit
set_option linter.unusedVariables false      -- a premise may serve only to tell which way is taken
set_option linter.unusedSimpArgs false
theorem twinMany (W : Int) (xs : List Int) (ys : List Int) (s : Int) (b : Int) (l : Int) (p : Int) (q : Int) (zs : List Int) (i : Int) (hp0 : -9223372036854775808 ≤ W ∧ W ≤ 9223372036854775807) (hp1 : U64s xs) (hp2 : U64s ys) (hp3 : -9223372036854775808 ≤ s ∧ s ≤ 9223372036854775807) (hp4 : -9223372036854775808 ≤ b ∧ b ≤ 9223372036854775807) (hp5 : -9223372036854775808 ≤ l ∧ l ≤ 9223372036854775807) (hp6 : -9223372036854775808 ≤ p ∧ p ≤ 9223372036854775807) (hp7 : -9223372036854775808 ≤ q ∧ q ≤ 9223372036854775807) (hp8 : U64s zs) (hp9 : -9223372036854775808 ≤ i ∧ i ≤ 9223372036854775807) : Pub Try.prog 11 [.agg (mm W xs ys ++ [.int .i64 s, .int .i64 b, .int .i64 l, .int .i64 p, .int .i64 q]), .sl false 1 (m64 zs), .int .i64 i] (fun rv => rv = .bool true) := by
 refine pub_of TT_ok Try.func11 rfl (by decide) (Nat.le_of_ble_eq_true (by kernel_rfl)) (by kernel_rfl) ?_
 refine rg [] 2 ⟨[(6, .f), (3, .p 0), (1, .sl false 1 (m64 zs)), (2, .i i)], [(0, .cells (mm W xs ys ++ [.i s, .i b, .i l, .i p, .i q]) 54)], 1⟩ [] trivial ?_
 refine xw_seq ?_
 refine reg ?_
 refine pc (shown11 ) ?_
 refine rk [] 1 1 ⟨[(7, .t), (6, .f), (3, .p 0), (1, .sl false 1 (m64 zs)), (2, .i i)], [(0, .cells (mm W xs ys ++ [.i s, .i b, .i l, .i p, .i q]) 54)], 1⟩ [] trivial ?_
 refine en ?_
 refine an ?_
 refine xw_seq ?_
 refine reg ?_
 refine rk [] 1 0 ⟨[(16, .agg (mm W xs ys ++ [.i s, .i b, .i l, .i p, .i q])), (7, .t), (6, .f), (3, .p 0), (1, .sl false 1 (m64 zs)), (2, .i i)], [(0, .cells (mm W xs ys ++ [.i s, .i b, .i l, .i p, .i q]) 54)], 1⟩ [True] ⟨trivial, trivial⟩ ?_
 by_cases h0 : 16 ≤ W ∧ W ≤ 4096 ∧ (xs.length : Int) = W ∧ (ys.length : Int) = W ∧ (s = 0 ∨ s = 1) ∧ 0 ≤ b ∧ b ≤ l ∧ l ≤ 4096 ∧ l = W ∧ ((p = 0 ∧ q = 0) ∨ (0 ≤ p ∧ p ≤ q ∧ q ≤ b)) ∧ W ≤ 200
 ·
  refine pc (few11_1 W xs ys s b l p q ‹_› ‹_› ‹_› ‹_› ‹_› ‹_› ‹_›) ?_
  refine rk [] 1 2 ⟨[(8, .t), (7, .t), (6, .f), (3, .p 0), (1, .sl false 1 (m64 zs)), (2, .i i)], [(0, .cells (mm W xs ys ++ [.i s, .i b, .i l, .i p, .i q]) 54)], 1⟩ [] trivial ?_
  refine en ?_
  refine an ?_
  refine xw_seq ?_
  refine rg [(4, .i ((zs).length : Int)), (5, .bool (decide (40 < ((zs).length : Int))))] 7 ⟨[(24, .bool (decide (40 < ((zs).length : Int)))), (7, .t), (6, .f), (3, .p 0), (1, .sl false 1 (m64 zs)), (2, .i i)], [(0, .cells (mm W xs ys ++ [.i s, .i b, .i l, .i p, .i q]) 54)], 1⟩ [((((m64 zs)).length : Nat) : Int) = ((zs).length : Int), (decide (40 < ((zs).length : Int))) = (decide (40 < ((zs).length : Int))), True] ⟨(by simp), rfl, trivial, trivial⟩ ?_
  refine xw_cond (b := (decide (40 < ((zs).length : Int)))) (by kernel_rfl) (fun h1 => ?_) (fun h1 => ?_)
  ·
   replace h1 : 40 < (zs.length : Int) := of_decide_eq_true h1
   refine rg [] 2 ⟨[(6, .t), (7, .t), (3, .p 0), (1, .sl false 1 (m64 zs)), (2, .i i)], [(0, .cells (mm W xs ys ++ [.i s, .i b, .i l, .i p, .i q]) 54)], 1⟩ [] trivial ?_
   refine xw_ret ?_
   refine an_ret ?_
   exact bs (.t) rfl
  ·
   replace h1 : ¬ (40 < (zs.length : Int)) := of_decide_eq_false h1
   refine xw_skip ?_
   refine an ?_
   refine xw_seq ?_
   refine reg ?_
   refine rk [] 2 0 ⟨[(28, .sl false 1 (m64 zs)), (27, .agg (mm W xs ys ++ [.i s, .i b, .i l, .i p, .i q])), (7, .t), (6, .f), (3, .p 0), (1, .sl false 1 (m64 zs)), (2, .i i)], [(0, .cells (mm W xs ys ++ [.i s, .i b, .i l, .i p, .i q]) 54)], 1⟩ [True] ⟨trivial, trivial⟩ ?_
   refine pcall (args := [.agg (mm W xs ys ++ [.i s, .i b, .i l, .i p, .i q]), .sl false 1 (m64 zs)]) (args' := [.agg (mm W xs ys ++ [.i s, .i b, .i l, .i p, .i q]), .sl false 1 (m64 zs)]) (d := (some 29)) (by kernel_rfl) (each1L W xs ys s b l p q zs (by omega) (by omega) (by omega) ‹_› ‹_› (by omega) (by omega) (by omega) ‹_› (by omega)) [(W : Int) = W, (false = true → false = true), ((m64 xs) : List SV) = (m64 xs), (false = true → false = true), ((m64 ys) : List SV) = (m64 ys), (s : Int) = s, (b : Int) = b, (l : Int) = l, (p : Int) = p, (q : Int) = q, (false = true → false = true), ((m64 zs) : List SV) = (m64 zs)] (by kernel_rfl) ⟨rfl, id, rfl, id, rfl, rfl, rfl, rfl, rfl, rfl, id, rfl, trivial⟩ (by kernel_rfl) ?_
   rintro _ (⟨X12, Y13, B14, T15, h6, h7, h8, h9, h10, h11, h12, h13, rfl⟩ | ⟨X12, Y13, B14, E15, h6, h7, h8, h9, h10, h11, h12, rfl⟩)
   ·
    refine rk [] 8 3 ⟨[(11, .i 0), (10, .sl false 1 (m64 T15)), (9, .p 1), (7, .t), (6, .f), (3, .p 0), (1, .sl false 1 (m64 zs)), (2, .i i)], [(1, .cells (mm W X12 Y13 ++ [.i s, .i B14, .i l, .i p, .i q]) 54), (0, .cells (mm W xs ys ++ [.i s, .i b, .i l, .i p, .i q]) 54)], 2⟩ [True] ⟨trivial, trivial⟩ ?_
    refine en ?_
    refine an ?_
    refine xw_seq ?_
    refine xw_seq ?_
    refine reg ?_
    refine rk [(1, .f), (4, .bool (decide (i < 0)))] 7 0 ⟨[(39, .bool (decide (i < 0))), (11, .i 0), (10, .sl false 1 (m64 T15)), (9, .p 1), (7, .t), (6, .f), (3, .p 0), (1, .sl false 1 (m64 zs)), (2, .i i)], [(1, .cells (mm W X12 Y13 ++ [.i s, .i B14, .i l, .i p, .i q]) 54), (0, .cells (mm W xs ys ++ [.i s, .i b, .i l, .i p, .i q]) 54)], 2⟩ [(0 != 0) = false, (decide (i < 0)) = (decide (i < 0)), True] ⟨bne_eq_false_iff_eq.2 (by omega), rfl, trivial, trivial⟩ ?_
    refine splitr 39 (x := (decide (i < 0))) (by kernel_rfl) (fun h14 => ?_) (fun h14 => ?_)
    ·
     replace h14 : i < 0 := of_decide_eq_true h14
     refine rk [] 5 7 ⟨[(44, .t), (11, .i 0), (10, .sl false 1 (m64 T15)), (9, .p 1), (7, .t), (6, .f), (3, .p 0), (1, .sl false 1 (m64 zs)), (2, .i i)], [(1, .cells (mm W X12 Y13 ++ [.i s, .i B14, .i l, .i p, .i q]) 54), (0, .cells (mm W xs ys ++ [.i s, .i b, .i l, .i p, .i q]) 54)], 2⟩ [True] ⟨trivial, trivial⟩ ?_
     refine en ?_
     refine an ?_
     refine ct ?_
     refine rg [(3, .f), (6, .i ((T15).length : Int)), (8, .i ((zs).length : Int)), (9, .t)] 13 ⟨[(6, .t), (10, .sl false 1 (m64 T15)), (9, .p 1), (7, .t), (3, .p 0), (1, .sl false 1 (m64 zs)), (2, .i i)], [(1, .cells (mm W X12 Y13 ++ [.i s, .i B14, .i l, .i p, .i q]) 54), (0, .cells (mm W xs ys ++ [.i s, .i b, .i l, .i p, .i q]) 54)], 2⟩ [(0 != 0) = false, ((((m64 T15)).length : Nat) : Int) = ((T15).length : Int), ((((m64 zs)).length : Nat) : Int) = ((zs).length : Int), (((T15).length : Int) == ((zs).length : Int)) = true, True, True] ⟨bne_eq_false_iff_eq.2 (by omega), (by simp), (by simp), beq_iff_eq.2 (by omega), trivial, trivial, trivial⟩ ?_
     refine xw_ret ?_
     refine an_ret ?_
     exact bs (.t) rfl
    ·
     replace h14 : ¬ (i < 0) := of_decide_eq_false h14
     refine rk [(9, .i ((zs).length : Int)), (10, .bool (decide (((zs).length : Int) ≤ i)))] 5 7 ⟨[(44, .bool (decide (((zs).length : Int) ≤ i))), (11, .i 0), (10, .sl false 1 (m64 T15)), (9, .p 1), (7, .t), (6, .f), (3, .p 0), (1, .sl false 1 (m64 zs)), (2, .i i)], [(1, .cells (mm W X12 Y13 ++ [.i s, .i B14, .i l, .i p, .i q]) 54), (0, .cells (mm W xs ys ++ [.i s, .i b, .i l, .i p, .i q]) 54)], 2⟩ [((((m64 zs)).length : Nat) : Int) = ((zs).length : Int), (decide (((zs).length : Int) ≤ i)) = (decide (((zs).length : Int) ≤ i)), True] ⟨(by simp), rfl, trivial, trivial⟩ ?_
     refine en ?_
     refine an ?_
     refine xw_cond (b := (decide (((zs).length : Int) ≤ i))) (by kernel_rfl) (fun h15 => ?_) (fun h15 => ?_)
     ·
      replace h15 : (zs.length : Int) ≤ i := of_decide_eq_true h15
      refine rg [(3, .f), (6, .i ((T15).length : Int)), (8, .i ((zs).length : Int)), (9, .t)] 13 ⟨[(6, .t), (10, .sl false 1 (m64 T15)), (9, .p 1), (7, .t), (3, .p 0), (1, .sl false 1 (m64 zs)), (2, .i i)], [(1, .cells (mm W X12 Y13 ++ [.i s, .i B14, .i l, .i p, .i q]) 54), (0, .cells (mm W xs ys ++ [.i s, .i b, .i l, .i p, .i q]) 54)], 2⟩ [(0 != 0) = false, ((((m64 T15)).length : Nat) : Int) = ((T15).length : Int), ((((m64 zs)).length : Nat) : Int) = ((zs).length : Int), (((T15).length : Int) == ((zs).length : Int)) = true, True, True] ⟨bne_eq_false_iff_eq.2 (by omega), (by simp), (by simp), beq_iff_eq.2 (by omega), trivial, trivial, trivial⟩ ?_
      refine xw_ret ?_
      refine an_ret ?_
      exact bs (.t) rfl
     ·
      replace h15 : ¬ ((zs.length : Int) ≤ i) := of_decide_eq_false h15
      refine xw_skip ?_
      refine an ?_
      refine xw_seq ?_
      refine rg [(1, .i ((T15).length : Int)), (3, .i ((zs).length : Int)), (4, .f)] 5 ⟨[(61, .f), (10, .sl false 1 (m64 T15)), (9, .p 1), (7, .t), (6, .f), (3, .p 0), (1, .sl false 1 (m64 zs)), (2, .i i)], [(1, .cells (mm W X12 Y13 ++ [.i s, .i B14, .i l, .i p, .i q]) 54), (0, .cells (mm W xs ys ++ [.i s, .i b, .i l, .i p, .i q]) 54)], 2⟩ [((((m64 T15)).length : Nat) : Int) = ((T15).length : Int), ((((m64 zs)).length : Nat) : Int) = ((zs).length : Int), (((T15).length : Int) != ((zs).length : Int)) = false] ⟨(by simp), (by simp), bne_eq_false_iff_eq.2 (by omega), trivial⟩ ?_
      refine cf ?_
      refine xw_skip ?_
      refine an ?_
      refine xw_seq ?_
      refine dregk hmix (by kernel_rfl) ?_
      refine qr [(3, .u (ix zs i))] 4 0 [(65, .elt (.u (ix zs i))), (64, .i i), (63, .sl false 1 (m64 zs)), (62, .agg (mm W xs ys ++ [.i s, .i b, .i l, .i p, .i q])), (61, .f), (10, .sl false 1 (m64 T15)), (9, .p 1), (7, .t), (6, .f), (3, .p 0), (1, .sl false 1 (m64 zs)), (2, .i i)] [True, (0 : Int) ≤ i ∧ i < ((((m64 zs)).length : Nat) : Int) ∧ ((m64 zs))[(i : Int).toNat]? = some (.u (ix zs i))] ⟨trivial, (ix_ok (by omega) (by first | omega | (simp only [len_st]; omega) | (simp; done) | (simp; omega) | (simp [len_st, len_stx, len_sty, len_zx, len_zy]; omega))), trivial⟩ ?_
      have h16 : 0 ≤ (ix zs i) ∧ (ix zs i) ≤ 18446744073709551615 := U64s.ix (by first | assumption | exact U64s.st (by assumption) _ (by omega)) _
      refine qr [] 1 4 [(66, .u (ix zs i)), (65, .elt (.u (ix zs i))), (64, .i i), (63, .sl false 1 (m64 zs)), (62, .agg (mm W xs ys ++ [.i s, .i b, .i l, .i p, .i q])), (61, .f), (10, .sl false 1 (m64 T15)), (9, .p 1), (7, .t), (6, .f), (3, .p 0), (1, .sl false 1 (m64 zs)), (2, .i i)] [True] ⟨trivial, trivial⟩ ?_
      by_cases h17 : 1 ≤ (ix zs i) / 4294967296 ∧ (ix zs i) / 4294967296 ≤ 2 ∧ (ix zs i) / 4294967296 - 1 = s
      ·
       refine qc (rtover_1 W xs ys s b l p q (ix zs i) (by omega) (by omega) (by omega) ‹_› ‹_› (by omega) (by omega) (by omega) ‹_› (by omega)) ?_
       have h18 : ((ix zs i) = 0 ∧ (ix T15 i) = 0) ∨ ((ix zs i) ≠ 0 ∧ (1 ≤ (ix zs i) / 4294967296 ∧ (ix zs i) / 4294967296 ≤ 2) ∧ (ix zs i) / 4294967296 - 1 = s ∧ (ix T15 i) = (ix zs i)) ∨ ((ix zs i) ≠ 0 ∧ ¬ ((ix zs i) / 4294967296 - 1 = s) ∧ (oErr W X12 Y13 (ix zs i)) = 0 ∧ (ldw X12 Y13 (ix zs i) / 72057594037927936) ≠ 255 ∧ (ix T15 i) ≠ 0 ∧ (ldw X12 Y13 ((ix zs i) + 1)) = (ix T15 i)) := ‹TwAll W X12 Y13 s zs T15›.each i (by omega) (by omega)
       refine qr [] 1 6 [(12, .t), (67, .t), (66, .u (ix zs i)), (65, .elt (.u (ix zs i))), (64, .i i), (63, .sl false 1 (m64 zs)), (62, .agg (mm W xs ys ++ [.i s, .i b, .i l, .i p, .i q])), (61, .f), (10, .sl false 1 (m64 T15)), (9, .p 1), (7, .t), (6, .f), (3, .p 0), (1, .sl false 1 (m64 zs)), (2, .i i)] [] trivial ?_
       refine qen ?_
       refine an ?_
       refine xw_seq ?_
       refine xw_seq ?_
       refine reg ?_
       refine rk [(2, .u (ix zs i))] 3 0 ⟨[(70, .elt (.u (ix zs i))), (12, .t), (10, .sl false 1 (m64 T15)), (9, .p 1), (7, .t), (6, .f), (1, .sl false 1 (m64 zs)), (2, .i i)], [(1, .cells (mm W X12 Y13 ++ [.i s, .i B14, .i l, .i p, .i q]) 54)], 2⟩ [(0 : Int) ≤ i ∧ i < ((((m64 zs)).length : Nat) : Int) ∧ ((m64 zs))[(i : Int).toNat]? = some (.u (ix zs i))] ⟨(ix_ok (by omega) (by first | omega | (simp only [len_st]; omega) | (simp; done) | (simp; omega) | (simp [len_st, len_stx, len_sty, len_zx, len_zy]; omega))), trivial⟩ ?_
       have h19 : 0 ≤ (ix zs i) ∧ (ix zs i) ≤ 18446744073709551615 := U64s.ix (by first | assumption | exact U64s.st (by assumption) _ (by omega)) _
       refine rk [(4, .f)] 5 3 ⟨[(75, .t), (10, .sl false 1 (m64 T15)), (9, .p 1), (7, .t), (6, .f), (1, .sl false 1 (m64 zs)), (2, .i i)], [(1, .cells (mm W X12 Y13 ++ [.i s, .i B14, .i l, .i p, .i q]) 54)], 2⟩ [True, ((ix zs i) == 0) = false, True] ⟨trivial, beq_eq_false_iff_ne.2 (by omega), trivial, trivial⟩ ?_
       refine en ?_
       refine an ?_
       refine ct ?_
       refine xw_seq ?_
       refine dregk hmix (by kernel_rfl) ?_
       refine qr [(4, .u (ix T15 i))] 5 0 [(80, .elt (.u (ix T15 i))), (79, .i i), (78, .sl false 1 (m64 T15)), (77, .t), (76, .t), (75, .t), (10, .sl false 1 (m64 T15)), (9, .p 1), (7, .t), (6, .f), (1, .sl false 1 (m64 zs)), (2, .i i)] [(0 : Int) ≤ i ∧ i < ((((m64 T15)).length : Nat) : Int) ∧ ((m64 T15))[(i : Int).toNat]? = some (.u (ix T15 i))] ⟨(ix_ok (by omega) (by first | omega | (simp only [len_st]; omega) | (simp; done) | (simp; omega) | (simp [len_st, len_stx, len_sty, len_zx, len_zy]; omega))), trivial⟩ ?_
       have h20 : 0 ≤ (ix T15 i) ∧ (ix T15 i) ≤ 18446744073709551615 := U64s.ix (by first | assumption | exact U64s.st (by assumption) _ (by omega)) _
       refine qr [(8, .u (ix zs i))] 4 5 [(84, .elt (.u (ix zs i))), (83, .i i), (82, .sl false 1 (m64 zs)), (81, .u (ix T15 i)), (80, .elt (.u (ix T15 i))), (79, .i i), (78, .sl false 1 (m64 T15)), (77, .t), (76, .t), (75, .t), (10, .sl false 1 (m64 T15)), (9, .p 1), (7, .t), (6, .f), (1, .sl false 1 (m64 zs)), (2, .i i)] [True, (0 : Int) ≤ i ∧ i < ((((m64 zs)).length : Nat) : Int) ∧ ((m64 zs))[(i : Int).toNat]? = some (.u (ix zs i))] ⟨trivial, (ix_ok (by omega) (by first | omega | (simp only [len_st]; omega) | (simp; done) | (simp; omega) | (simp [len_st, len_stx, len_sty, len_zx, len_zy]; omega))), trivial⟩ ?_
       have h21 : 0 ≤ (ix zs i) ∧ (ix zs i) ≤ 18446744073709551615 := U64s.ix (by first | assumption | exact U64s.st (by assumption) _ (by omega)) _
       refine qr [(10, .t)] 4 9 [(6, .t), (87, .t), (86, .t), (85, .u (ix zs i)), (84, .elt (.u (ix zs i))), (83, .i i), (82, .sl false 1 (m64 zs)), (81, .u (ix T15 i)), (80, .elt (.u (ix T15 i))), (79, .i i), (78, .sl false 1 (m64 T15)), (77, .t), (76, .t), (75, .t), (10, .sl false 1 (m64 T15)), (9, .p 1), (7, .t), (6, .f), (1, .sl false 1 (m64 zs)), (2, .i i)] [True, ((ix T15 i) == (ix zs i)) = true, True] ⟨trivial, beq_iff_eq.2 (by omega), trivial, trivial⟩ ?_
       refine qen ?_
       refine an ?_
       refine xw_ret ?_
       refine an_ret ?_
       exact bs (.t) rfl
      ·
       refine qc (rtover_2 W xs ys s b l p q (ix zs i) (by omega) (by omega) (by omega) ‹_› ‹_› (by omega) (by omega) (by omega) ‹_› (by omega)) ?_
       have h18 : ((ix zs i) = 0 ∧ (ix T15 i) = 0) ∨ ((ix zs i) ≠ 0 ∧ (1 ≤ (ix zs i) / 4294967296 ∧ (ix zs i) / 4294967296 ≤ 2) ∧ (ix zs i) / 4294967296 - 1 = s ∧ (ix T15 i) = (ix zs i)) ∨ ((ix zs i) ≠ 0 ∧ ¬ ((ix zs i) / 4294967296 - 1 = s) ∧ (oErr W X12 Y13 (ix zs i)) = 0 ∧ (ldw X12 Y13 (ix zs i) / 72057594037927936) ≠ 255 ∧ (ix T15 i) ≠ 0 ∧ (ldw X12 Y13 ((ix zs i) + 1)) = (ix T15 i)) := ‹TwAll W X12 Y13 s zs T15›.each i (by omega) (by omega)
       refine qr [] 1 6 [(12, .f), (67, .f), (66, .u (ix zs i)), (65, .elt (.u (ix zs i))), (64, .i i), (63, .sl false 1 (m64 zs)), (62, .agg (mm W xs ys ++ [.i s, .i b, .i l, .i p, .i q])), (61, .f), (10, .sl false 1 (m64 T15)), (9, .p 1), (7, .t), (6, .f), (3, .p 0), (1, .sl false 1 (m64 zs)), (2, .i i)] [] trivial ?_
       refine qen ?_
       refine an ?_
       refine xw_seq ?_
       refine xw_seq ?_
       refine reg ?_
       refine rk [(2, .u (ix zs i))] 3 0 ⟨[(70, .elt (.u (ix zs i))), (12, .f), (10, .sl false 1 (m64 T15)), (9, .p 1), (7, .t), (6, .f), (1, .sl false 1 (m64 zs)), (2, .i i)], [(1, .cells (mm W X12 Y13 ++ [.i s, .i B14, .i l, .i p, .i q]) 54)], 2⟩ [(0 : Int) ≤ i ∧ i < ((((m64 zs)).length : Nat) : Int) ∧ ((m64 zs))[(i : Int).toNat]? = some (.u (ix zs i))] ⟨(ix_ok (by omega) (by first | omega | (simp only [len_st]; omega) | (simp; done) | (simp; omega) | (simp [len_st, len_stx, len_sty, len_zx, len_zy]; omega))), trivial⟩ ?_
       have h19 : 0 ≤ (ix zs i) ∧ (ix zs i) ≤ 18446744073709551615 := U64s.ix (by first | assumption | exact U64s.st (by assumption) _ (by omega)) _
       refine rk [(4, .bool ((ix zs i) == 0))] 3 3 ⟨[(73, .bool ((ix zs i) == 0)), (12, .f), (10, .sl false 1 (m64 T15)), (9, .p 1), (7, .t), (6, .f), (1, .sl false 1 (m64 zs)), (2, .i i)], [(1, .cells (mm W X12 Y13 ++ [.i s, .i B14, .i l, .i p, .i q]) 54)], 2⟩ [True, ((ix zs i) == 0) = ((ix zs i) == 0)] ⟨trivial, rfl, trivial⟩ ?_
       refine splitr 73 (x := ((ix zs i) == 0)) (by kernel_rfl) (fun h20 => ?_) (fun h20 => ?_)
       ·
        replace h20 : (ix zs i) = 0 := eq_of_beq h20
        refine rk [] 2 6 ⟨[(75, .t), (10, .sl false 1 (m64 T15)), (9, .p 1), (7, .t), (6, .f), (1, .sl false 1 (m64 zs)), (2, .i i)], [(1, .cells (mm W X12 Y13 ++ [.i s, .i B14, .i l, .i p, .i q]) 54)], 2⟩ [True] ⟨trivial, trivial⟩ ?_
        refine en ?_
        refine an ?_
        refine ct ?_
        refine xw_seq ?_
        refine dregk hmix (by kernel_rfl) ?_
        refine qr [(4, .u (ix T15 i))] 5 0 [(80, .elt (.u (ix T15 i))), (79, .i i), (78, .sl false 1 (m64 T15)), (77, .t), (76, .t), (75, .t), (10, .sl false 1 (m64 T15)), (9, .p 1), (7, .t), (6, .f), (1, .sl false 1 (m64 zs)), (2, .i i)] [(0 : Int) ≤ i ∧ i < ((((m64 T15)).length : Nat) : Int) ∧ ((m64 T15))[(i : Int).toNat]? = some (.u (ix T15 i))] ⟨(ix_ok (by omega) (by first | omega | (simp only [len_st]; omega) | (simp; done) | (simp; omega) | (simp [len_st, len_stx, len_sty, len_zx, len_zy]; omega))), trivial⟩ ?_
        have h21 : 0 ≤ (ix T15 i) ∧ (ix T15 i) ≤ 18446744073709551615 := U64s.ix (by first | assumption | exact U64s.st (by assumption) _ (by omega)) _
        refine qr [(8, .u (ix zs i))] 4 5 [(84, .elt (.u (ix zs i))), (83, .i i), (82, .sl false 1 (m64 zs)), (81, .u (ix T15 i)), (80, .elt (.u (ix T15 i))), (79, .i i), (78, .sl false 1 (m64 T15)), (77, .t), (76, .t), (75, .t), (10, .sl false 1 (m64 T15)), (9, .p 1), (7, .t), (6, .f), (1, .sl false 1 (m64 zs)), (2, .i i)] [True, (0 : Int) ≤ i ∧ i < ((((m64 zs)).length : Nat) : Int) ∧ ((m64 zs))[(i : Int).toNat]? = some (.u (ix zs i))] ⟨trivial, (ix_ok (by omega) (by first | omega | (simp only [len_st]; omega) | (simp; done) | (simp; omega) | (simp [len_st, len_stx, len_sty, len_zx, len_zy]; omega))), trivial⟩ ?_
        have h22 : 0 ≤ (ix zs i) ∧ (ix zs i) ≤ 18446744073709551615 := U64s.ix (by first | assumption | exact U64s.st (by assumption) _ (by omega)) _
        refine qr [(10, .t)] 4 9 [(6, .t), (87, .t), (86, .t), (85, .u (ix zs i)), (84, .elt (.u (ix zs i))), (83, .i i), (82, .sl false 1 (m64 zs)), (81, .u (ix T15 i)), (80, .elt (.u (ix T15 i))), (79, .i i), (78, .sl false 1 (m64 T15)), (77, .t), (76, .t), (75, .t), (10, .sl false 1 (m64 T15)), (9, .p 1), (7, .t), (6, .f), (1, .sl false 1 (m64 zs)), (2, .i i)] [True, ((ix T15 i) == (ix zs i)) = true, True] ⟨trivial, beq_iff_eq.2 (by omega), trivial, trivial⟩ ?_
        refine qen ?_
        refine an ?_
        refine xw_ret ?_
        refine an_ret ?_
        exact bs (.t) rfl
       ·
        replace h20 : (ix zs i) ≠ 0 := ne_of_beq_false h20
        refine rk [] 2 6 ⟨[(75, .f), (10, .sl false 1 (m64 T15)), (9, .p 1), (7, .t), (6, .f), (1, .sl false 1 (m64 zs)), (2, .i i)], [(1, .cells (mm W X12 Y13 ++ [.i s, .i B14, .i l, .i p, .i q]) 54)], 2⟩ [True] ⟨trivial, trivial⟩ ?_
        refine en ?_
        refine an ?_
        refine cf ?_
        refine xw_skip ?_
        refine an ?_
        refine xw_seq ?_
        refine dregk hmix (by kernel_rfl) ?_
        refine qr [(4, .u (ix zs i))] 5 0 [(93, .elt (.u (ix zs i))), (92, .i i), (91, .sl false 1 (m64 zs)), (90, .agg (mm W X12 Y13)), (89, .p 1), (75, .f), (10, .sl false 1 (m64 T15)), (9, .p 1), (7, .t), (6, .f), (1, .sl false 1 (m64 zs)), (2, .i i)] [True, (0 : Int) ≤ i ∧ i < ((((m64 zs)).length : Nat) : Int) ∧ ((m64 zs))[(i : Int).toNat]? = some (.u (ix zs i))] ⟨trivial, (ix_ok (by omega) (by first | omega | (simp only [len_st]; omega) | (simp; done) | (simp; omega) | (simp [len_st, len_stx, len_sty, len_zx, len_zy]; omega))), trivial⟩ ?_
        have h21 : 0 ≤ (ix zs i) ∧ (ix zs i) ≤ 18446744073709551615 := U64s.ix (by first | assumption | exact U64s.st (by assumption) _ (by omega)) _
        refine qr [] 1 5 [(94, .u (ix zs i)), (93, .elt (.u (ix zs i))), (92, .i i), (91, .sl false 1 (m64 zs)), (90, .agg (mm W X12 Y13)), (89, .p 1), (75, .f), (10, .sl false 1 (m64 T15)), (9, .p 1), (7, .t), (6, .f), (1, .sl false 1 (m64 zs)), (2, .i i)] [True] ⟨trivial, trivial⟩ ?_
        refine qc (rotwin_1 W X12 Y13 (ix zs i) (by omega) ‹_› ‹_› ‹_› ‹_› ‹_› (by omega) (by omega)) ?_
        obtain ⟨h22, h23, h24⟩ := oErr_ok W X12 Y13 (ix zs i) (by omega)
        have h25 : 0 ≤ (ldw X12 Y13 ((ix zs i) + 1)) ∧ (ldw X12 Y13 ((ix zs i) + 1)) ≤ 18446744073709551615 := ldw_ok X12 Y13 ((ix zs i) + 1) ‹_› ‹_›
        have h26 : 1 ≤ ((ix zs i) + 1) / 4294967296 ∧ ((ix zs i) + 1) / 4294967296 ≤ 2 ∧ ((ix zs i) + 1) % 4294967296 < W := by omega
        refine qr [] 5 7 [(14, .i 0), (13, .u (ldw X12 Y13 ((ix zs i) + 1))), (97, .i 0), (96, .u (ldw X12 Y13 ((ix zs i) + 1))), (88, .tup [.u (ldw X12 Y13 ((ix zs i) + 1)), .i 0]), (95, .tup [.u (ldw X12 Y13 ((ix zs i) + 1)), .i 0]), (94, .u (ix zs i)), (93, .elt (.u (ix zs i))), (92, .i i), (91, .sl false 1 (m64 zs)), (90, .agg (mm W X12 Y13)), (89, .p 1), (75, .f), (10, .sl false 1 (m64 T15)), (9, .p 1), (7, .t), (6, .f), (1, .sl false 1 (m64 zs)), (2, .i i)] [] trivial ?_
        refine qen ?_
        refine an ?_
        refine xw_seq ?_
        refine dregk hmix (by kernel_rfl) ?_
        refine qr [(3, .t), (9, .u (ix T15 i))] 10 0 [(107, .elt (.u (ix T15 i))), (106, .i i), (105, .sl false 1 (m64 T15)), (104, .u (ldw X12 Y13 ((ix zs i) + 1))), (103, .t), (102, .t), (101, .t), (100, .i 0), (99, .t), (98, .t), (14, .i 0), (13, .u (ldw X12 Y13 ((ix zs i) + 1))), (97, .i 0), (96, .u (ldw X12 Y13 ((ix zs i) + 1))), (88, .tup [.u (ldw X12 Y13 ((ix zs i) + 1)), .i 0]), (95, .tup [.u (ldw X12 Y13 ((ix zs i) + 1)), .i 0]), (94, .u (ix zs i)), (93, .elt (.u (ix zs i))), (92, .i i), (91, .sl false 1 (m64 zs)), (90, .agg (mm W X12 Y13)), (89, .p 1), (75, .f), (10, .sl false 1 (m64 T15)), (9, .p 1), (7, .t), (6, .f), (1, .sl false 1 (m64 zs)), (2, .i i)] [(0 == 0) = true, True, (0 : Int) ≤ i ∧ i < ((((m64 T15)).length : Nat) : Int) ∧ ((m64 T15))[(i : Int).toNat]? = some (.u (ix T15 i))] ⟨beq_iff_eq.2 (by omega), trivial, (ix_ok (by omega) (by first | omega | (simp only [len_st]; omega) | (simp; done) | (simp; omega) | (simp [len_st, len_stx, len_sty, len_zx, len_zy]; omega))), trivial⟩ ?_
        have h27 : 0 ≤ (ix T15 i) ∧ (ix T15 i) ≤ 18446744073709551615 := U64s.ix (by first | assumption | exact U64s.st (by assumption) _ (by omega)) _
        refine qr [(11, .t), (17, .u (ix zs i))] 8 10 [(115, .elt (.u (ix zs i))), (114, .i i), (113, .sl false 1 (m64 zs)), (112, .agg (mm W X12 Y13 ++ [.i s, .i B14, .i l, .i p, .i q])), (111, .t), (110, .t), (109, .t), (108, .u (ix T15 i)), (107, .elt (.u (ix T15 i))), (106, .i i), (105, .sl false 1 (m64 T15)), (104, .u (ldw X12 Y13 ((ix zs i) + 1))), (103, .t), (102, .t), (101, .t), (100, .i 0), (99, .t), (98, .t), (14, .i 0), (13, .u (ldw X12 Y13 ((ix zs i) + 1))), (97, .i 0), (96, .u (ldw X12 Y13 ((ix zs i) + 1))), (88, .tup [.u (ldw X12 Y13 ((ix zs i) + 1)), .i 0]), (95, .tup [.u (ldw X12 Y13 ((ix zs i) + 1)), .i 0]), (94, .u (ix zs i)), (93, .elt (.u (ix zs i))), (92, .i i), (91, .sl false 1 (m64 zs)), (90, .agg (mm W X12 Y13)), (89, .p 1), (75, .f), (10, .sl false 1 (m64 T15)), (9, .p 1), (7, .t), (6, .f), (1, .sl false 1 (m64 zs)), (2, .i i)] [True, ((ldw X12 Y13 ((ix zs i) + 1)) == (ix T15 i)) = true, True, True, (0 : Int) ≤ i ∧ i < ((((m64 zs)).length : Nat) : Int) ∧ ((m64 zs))[(i : Int).toNat]? = some (.u (ix zs i))] ⟨trivial, beq_iff_eq.2 (by omega), trivial, trivial, (ix_ok (by omega) (by first | omega | (simp only [len_st]; omega) | (simp; done) | (simp; omega) | (simp [len_st, len_stx, len_sty, len_zx, len_zy]; omega))), trivial⟩ ?_
        have h28 : 0 ≤ (ix zs i) ∧ (ix zs i) ≤ 18446744073709551615 := U64s.ix (by first | assumption | exact U64s.st (by assumption) _ (by omega)) _
        refine qr [] 1 18 [(116, .u (ix zs i)), (115, .elt (.u (ix zs i))), (114, .i i), (113, .sl false 1 (m64 zs)), (112, .agg (mm W X12 Y13 ++ [.i s, .i B14, .i l, .i p, .i q])), (111, .t), (110, .t), (109, .t), (108, .u (ix T15 i)), (107, .elt (.u (ix T15 i))), (106, .i i), (105, .sl false 1 (m64 T15)), (104, .u (ldw X12 Y13 ((ix zs i) + 1))), (103, .t), (102, .t), (101, .t), (100, .i 0), (99, .t), (98, .t), (14, .i 0), (13, .u (ldw X12 Y13 ((ix zs i) + 1))), (97, .i 0), (96, .u (ldw X12 Y13 ((ix zs i) + 1))), (88, .tup [.u (ldw X12 Y13 ((ix zs i) + 1)), .i 0]), (95, .tup [.u (ldw X12 Y13 ((ix zs i) + 1)), .i 0]), (94, .u (ix zs i)), (93, .elt (.u (ix zs i))), (92, .i i), (91, .sl false 1 (m64 zs)), (90, .agg (mm W X12 Y13)), (89, .p 1), (75, .f), (10, .sl false 1 (m64 T15)), (9, .p 1), (7, .t), (6, .f), (1, .sl false 1 (m64 zs)), (2, .i i)] [True] ⟨trivial, trivial⟩ ?_
        refine qc (tmade_1 W X12 Y13 s B14 l p q (ix zs i) (by omega) ‹_› ‹_› ‹_› ‹_› (by omega) (by omega) (by omega) ‹_› (by omega)) ?_
        refine qr [] 2 20 [(6, .t), (118, .t), (117, .t), (116, .u (ix zs i)), (115, .elt (.u (ix zs i))), (114, .i i), (113, .sl false 1 (m64 zs)), (112, .agg (mm W X12 Y13 ++ [.i s, .i B14, .i l, .i p, .i q])), (111, .t), (110, .t), (109, .t), (108, .u (ix T15 i)), (107, .elt (.u (ix T15 i))), (106, .i i), (105, .sl false 1 (m64 T15)), (104, .u (ldw X12 Y13 ((ix zs i) + 1))), (103, .t), (102, .t), (101, .t), (100, .i 0), (99, .t), (98, .t), (14, .i 0), (13, .u (ldw X12 Y13 ((ix zs i) + 1))), (97, .i 0), (96, .u (ldw X12 Y13 ((ix zs i) + 1))), (88, .tup [.u (ldw X12 Y13 ((ix zs i) + 1)), .i 0]), (95, .tup [.u (ldw X12 Y13 ((ix zs i) + 1)), .i 0]), (94, .u (ix zs i)), (93, .elt (.u (ix zs i))), (92, .i i), (91, .sl false 1 (m64 zs)), (90, .agg (mm W X12 Y13)), (89, .p 1), (75, .f), (10, .sl false 1 (m64 T15)), (9, .p 1), (7, .t), (6, .f), (1, .sl false 1 (m64 zs)), (2, .i i)] [True] ⟨trivial, trivial⟩ ?_
        refine qen ?_
        refine an ?_
        refine xw_ret ?_
        exact bs (.t) rfl
   ·
    refine rk [] 8 3 ⟨[(11, .i E15), (10, .nils), (9, .p 1), (7, .t), (6, .f), (3, .p 0), (1, .sl false 1 (m64 zs)), (2, .i i)], [(1, .cells (mm W X12 Y13 ++ [.i s, .i B14, .i l, .i p, .i q]) 54), (0, .cells (mm W xs ys ++ [.i s, .i b, .i l, .i p, .i q]) 54)], 2⟩ [True] ⟨trivial, trivial⟩ ?_
    refine en ?_
    refine an ?_
    refine xw_seq ?_
    refine rg [(1, .t)] 12 ⟨[(44, .t), (11, .i E15), (10, .nils), (9, .p 1), (7, .t), (6, .f), (3, .p 0), (1, .sl false 1 (m64 zs)), (2, .i i)], [(1, .cells (mm W X12 Y13 ++ [.i s, .i B14, .i l, .i p, .i q]) 54), (0, .cells (mm W xs ys ++ [.i s, .i b, .i l, .i p, .i q]) 54)], 2⟩ [(E15 != 0) = true, True, True] ⟨bne_iff_ne.2 (by omega), trivial, trivial, trivial⟩ ?_
    refine ct ?_
    refine rg [(3, .t)] 13 ⟨[(6, .t), (10, .nils), (9, .p 1), (7, .t), (3, .p 0), (1, .sl false 1 (m64 zs)), (2, .i i)], [(1, .cells (mm W X12 Y13 ++ [.i s, .i B14, .i l, .i p, .i q]) 54), (0, .cells (mm W xs ys ++ [.i s, .i b, .i l, .i p, .i q]) 54)], 2⟩ [(E15 != 0) = true, True, True] ⟨bne_iff_ne.2 (by omega), trivial, trivial, trivial⟩ ?_
    refine xw_ret ?_
    refine an_ret ?_
    exact bs (.t) rfl
 ·
  refine pc (few11_2 W xs ys s b l p q ‹_› ‹_› ‹_› ‹_› ‹_› ‹_› ‹_›) ?_
  refine rk [] 1 2 ⟨[(8, .f), (7, .t), (6, .f), (3, .p 0), (1, .sl false 1 (m64 zs)), (2, .i i)], [(0, .cells (mm W xs ys ++ [.i s, .i b, .i l, .i p, .i q]) 54)], 1⟩ [] trivial ?_
  refine en ?_
  refine an ?_
  refine xw_seq ?_
  refine rg [] 7 ⟨[(24, .t), (7, .t), (6, .f), (3, .p 0), (1, .sl false 1 (m64 zs)), (2, .i i)], [(0, .cells (mm W xs ys ++ [.i s, .i b, .i l, .i p, .i q]) 54)], 1⟩ [True] ⟨trivial, trivial⟩ ?_
  refine ct ?_
  refine rg [] 2 ⟨[(6, .t), (7, .t), (3, .p 0), (1, .sl false 1 (m64 zs)), (2, .i i)], [(0, .cells (mm W xs ys ++ [.i s, .i b, .i l, .i p, .i q]) 54)], 1⟩ [] trivial ?_
  refine xw_ret ?_
  refine an_ret ?_
  exact bs (.t) rfl

end Go.Proofs.Ytcjcljbhjkedgaa.X
