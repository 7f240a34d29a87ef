/- Contracts of Go functions: what each returns, for every input that its premises name; no memory of the caller is touched. Printed by a program. -/
import Derived.Test.YtkiaoafmlekndaaXg3
namespace Go.Proofs.Ytkiaoafmlekndaa.X
open Go Go.RowKit
set_option linter.unusedVariables false      -- a premise may serve only to tell which way is taken
set_option linter.unusedSimpArgs false
theorem replayNone (W : Int) (xs : List Int) (ys : List Int) (s : Int) (b : Int) (l : Int) (p : Int) (q : Int) (a : Int) (i : Int) (hp0 : -9223372036854775808 ≤ W ∧ W ≤ 9223372036854775807) (hp1 : U64s xs) (hp2 : U64s ys) (hp3 : -9223372036854775808 ≤ s ∧ s ≤ 9223372036854775807) (hp4 : -9223372036854775808 ≤ b ∧ b ≤ 9223372036854775807) (hp5 : -9223372036854775808 ≤ l ∧ l ≤ 9223372036854775807) (hp6 : -9223372036854775808 ≤ p ∧ p ≤ 9223372036854775807) (hp7 : -9223372036854775808 ≤ q ∧ q ≤ 9223372036854775807) (hp8 : 0 ≤ a ∧ a ≤ 18446744073709551615) (hp9 : -9223372036854775808 ≤ i ∧ i ≤ 9223372036854775807) : Pub Try.prog 6 [.agg (mr W xs ys [.int .i64 s, .int .i64 b, .int .i64 l, .int .i64 p, .int .i64 q]), .agg [.int .u64 a, .int .i64 i]] (fun rv => rv = .bool true) := by
 refine pub_of TT_ok Try.func6 rfl (by decide) (Nat.le_of_ble_eq_true (by kernel_rfl)) (by kernel_rfl) ?_
 refine rg [] 3 ⟨[(4, .f), (3, .p 1), (2, .p 0)], [(1, .cells [.u a, .i i] 56), (0, .cells (mr W xs ys [.i s, .i b, .i l, .i p, .i q]) 31)], 2⟩ [] trivial ?_
 refine xw_seq ?_
 refine reg ?_
 refine pc (shown13 ) ?_
 refine rk [] 1 1 ⟨[(5, .t), (4, .f), (3, .p 1), (2, .p 0)], [(1, .cells [.u a, .i i] 56), (0, .cells (mr W xs ys [.i s, .i b, .i l, .i p, .i q]) 31)], 2⟩ [] trivial ?_
 refine en ?_
 refine an ?_
 refine xw_seq ?_
 refine reg ?_
 refine rk [] 1 0 ⟨[(20, .agg (mr W xs ys [.i s, .i b, .i l, .i p, .i q])), (5, .t), (4, .f), (3, .p 1), (2, .p 0)], [(1, .cells [.u a, .i i] 56), (0, .cells (mr W xs ys [.i s, .i b, .i l, .i p, .i q]) 31)], 2⟩ [True] ⟨trivial, trivial⟩ ?_
 by_cases h0 : 16 ≤ W ∧ W ≤ 4096 ∧ (xs.length : Int) = W ∧ (ys.length : Int) = W ∧ (s = 0 ∨ s = 1) ∧ 0 ≤ b ∧ b ≤ l ∧ l ≤ 4096 ∧ l = W ∧ ((p = 0 ∧ q = 0) ∨ (0 ≤ p ∧ p ≤ q ∧ q ≤ b)) ∧ W ≤ 200
 ·
  refine pc (few13_1 W xs ys s b l p q ‹_› ‹_› ‹_› ‹_› ‹_› ‹_› ‹_›) ?_
  refine rk [] 1 2 ⟨[(6, .t), (5, .t), (4, .f), (3, .p 1), (2, .p 0)], [(1, .cells [.u a, .i i] 56), (0, .cells (mr W xs ys [.i s, .i b, .i l, .i p, .i q]) 31)], 2⟩ [] trivial ?_
  refine en ?_
  refine an ?_
  refine xw_seq ?_
  refine rg [] 2 ⟨[(23, .f), (5, .t), (4, .f), (3, .p 1), (2, .p 0)], [(1, .cells [.u a, .i i] 56), (0, .cells (mr W xs ys [.i s, .i b, .i l, .i p, .i q]) 31)], 2⟩ [] trivial ?_
  refine cf ?_
  refine xw_skip ?_
  refine an ?_
  refine xw_seq ?_
  refine reg ?_
  refine rk [] 1 0 ⟨[(26, .agg (mr W xs ys [.i s, .i b, .i l, .i p, .i q])), (5, .t), (4, .f), (3, .p 1), (2, .p 0)], [(1, .cells [.u a, .i i] 56), (0, .cells (mr W xs ys [.i s, .i b, .i l, .i p, .i q]) 31)], 2⟩ [True] ⟨trivial, trivial⟩ ?_
  refine pc (all1 W xs ys s b l p q (by omega) (by omega) (by omega) ‹_› ‹_› (by omega) (by omega) (by omega)) ?_
  refine rk [] 8 2 ⟨[(9, .i 0), (8, .i 0), (7, .p 2), (5, .t), (4, .f), (3, .p 1), (2, .p 0)], [(2, .cells (mr W xs ys [.i s, .i b, .i l, .i p, .i q]) 31), (1, .cells [.u a, .i i] 56), (0, .cells (mr W xs ys [.i s, .i b, .i l, .i p, .i q]) 31)], 3⟩ [True] ⟨trivial, trivial⟩ ?_
  refine en ?_
  refine an ?_
  refine xw_seq ?_
  refine reg ?_
  refine rk [] 1 0 ⟨[(32, .agg (mr W xs ys [.i s, .i b, .i l, .i p, .i q])), (9, .i 0), (8, .i 0), (7, .p 2), (5, .t), (4, .f), (3, .p 1), (2, .p 0)], [(2, .cells (mr W xs ys [.i s, .i b, .i l, .i p, .i q]) 31), (1, .cells [.u a, .i i] 56), (0, .cells (mr W xs ys [.i s, .i b, .i l, .i p, .i q]) 31)], 3⟩ [True] ⟨trivial, trivial⟩ ?_
  refine pc (logs0 W xs ys s b l p q (by omega) (by omega) (by omega) ‹_› ‹_› (by omega) (by omega) (by omega)) ?_
  refine rk [] 8 2 ⟨[(12, .i 0), (11, .nils), (10, .p 3), (9, .i 0), (8, .i 0), (7, .p 2), (5, .t), (4, .f), (3, .p 1), (2, .p 0)], [(3, .cells (mr W xs ys [.i s, .i b, .i l, .i p, .i q]) 31), (2, .cells (mr W xs ys [.i s, .i b, .i l, .i p, .i q]) 31), (1, .cells [.u a, .i i] 56), (0, .cells (mr W xs ys [.i s, .i b, .i l, .i p, .i q]) 31)], 4⟩ [True] ⟨trivial, trivial⟩ ?_
  refine en ?_
  refine an ?_
  refine xw_seq ?_
  refine reg ?_
  refine rk [] 2 0 ⟨[(38, .agg (mr W xs ys [.i s, .i b, .i l, .i p, .i q])), (37, .agg (mr W xs ys [.i s, .i b, .i l, .i p, .i q])), (12, .i 0), (11, .nils), (10, .p 3), (9, .i 0), (8, .i 0), (5, .t), (4, .f), (3, .p 1), (2, .p 0)], [(3, .cells (mr W xs ys [.i s, .i b, .i l, .i p, .i q]) 31), (1, .cells [.u a, .i i] 56), (0, .cells (mr W xs ys [.i s, .i b, .i l, .i p, .i q]) 31)], 4⟩ [True, True] ⟨trivial, trivial, trivial⟩ ?_
  refine pc (rrsame_1 W xs ys s b l p q W xs ys s b l p q ‹_› ‹_› ‹_› ‹_› (by omega) (by omega) (by omega) (by omega) ‹_› ‹_› ‹_› ‹_› ‹_› ‹_› ‹_› ‹_› ‹_› ‹_› ‹_› ‹_› ⟨rfl, rfl, rfl, rfl, rfl, rfl, rfl, rfl⟩) ?_
  refine rk [] 3 3 ⟨[(42, .agg (mr W xs ys [.i s, .i b, .i l, .i p, .i q])), (41, .agg (mr W xs ys [.i s, .i b, .i l, .i p, .i q])), (40, .t), (12, .i 0), (11, .nils), (9, .i 0), (8, .i 0), (5, .t), (4, .f), (3, .p 1), (2, .p 0)], [(1, .cells [.u a, .i i] 56), (0, .cells (mr W xs ys [.i s, .i b, .i l, .i p, .i q]) 31)], 4⟩ [True, True] ⟨trivial, trivial, trivial⟩ ?_
  refine pc (rrsame_1 W xs ys s b l p q W xs ys s b l p q ‹_› ‹_› ‹_› ‹_› (by omega) (by omega) (by omega) (by omega) ‹_› ‹_› ‹_› ‹_› ‹_› ‹_› ‹_› ‹_› ‹_› ‹_› ‹_› ‹_› ⟨rfl, rfl, rfl, rfl, rfl, rfl, rfl, rfl⟩) ?_
  refine rk [] 2 7 ⟨[(13, .t), (12, .i 0), (11, .nils), (9, .i 0), (8, .i 0), (5, .t), (4, .f), (3, .p 1), (2, .p 0)], [(1, .cells [.u a, .i i] 56), (0, .cells (mr W xs ys [.i s, .i b, .i l, .i p, .i q]) 31)], 4⟩ [True] ⟨trivial, trivial⟩ ?_
  refine en ?_
  refine an ?_
  refine xw_seq ?_
  refine rg [(4, .f), (8, .f), (12, .i 0), (13, .f), (17, .f)] 19 ⟨[(63, .f), (5, .t), (4, .f), (3, .p 1), (2, .p 0)], [(1, .cells [.u a, .i i] 56), (0, .cells (mr W xs ys [.i s, .i b, .i l, .i p, .i q]) 31)], 4⟩ [(0 != 0) = false, True, (0 != 0) = false, True, (0 : Int) = 0, (0 != 0) = false, True, (0 != 0) = false, True] ⟨bne_eq_false_iff_eq.2 (by omega), trivial, bne_eq_false_iff_eq.2 (by omega), trivial, rfl, bne_eq_false_iff_eq.2 (by omega), trivial, bne_eq_false_iff_eq.2 (by omega), trivial, trivial⟩ ?_
  refine cf ?_
  refine xw_skip ?_
  refine an ?_
  refine xw_seq ?_
  refine reg ?_
  refine rk [] 4 0 ⟨[(68, .u a), (66, .agg (mm W xs ys)), (5, .t), (4, .f), (3, .p 1), (2, .p 0)], [(1, .cells [.u a, .i i] 56), (0, .cells (mr W xs ys [.i s, .i b, .i l, .i p, .i q]) 31)], 4⟩ [True, True] ⟨trivial, trivial, trivial⟩ ?_
  by_cases h1 : ((oErr W xs ys a) = 0) ∧ ((ldw xs ys a / 72057594037927936) ≠ 255)
  ·
   refine pc (rotwin_1 W xs ys a (by omega) (by omega) (by omega) ‹_› ‹_› ‹_› (by omega) (by omega)) ?_
   obtain ⟨h2, h3, h4⟩ := oErr_ok W xs ys a (by omega)
   have h5 : 0 ≤ (ldw xs ys (a + 1)) ∧ (ldw xs ys (a + 1)) ≤ 18446744073709551615 := ldw_ok xs ys (a + 1) ‹_› ‹_›
   have h6 : 1 ≤ (a + 1) / 4294967296 ∧ (a + 1) / 4294967296 ≤ 2 ∧ (a + 1) % 4294967296 < W := by omega
   refine rk [] 5 5 ⟨[(14, .u (ldw xs ys (a + 1))), (5, .t), (4, .f), (3, .p 1), (2, .p 0)], [(1, .cells [.u a, .i i] 56), (0, .cells (mr W xs ys [.i s, .i b, .i l, .i p, .i q]) 31)], 4⟩ [] trivial ?_
   refine en ?_
   refine an ?_
   refine xw_seq ?_
   refine reg ?_
   refine rk [] 3 0 ⟨[(74, .u a), (72, .agg (mr W xs ys [.i s, .i b, .i l, .i p, .i q])), (14, .u (ldw xs ys (a + 1))), (5, .t), (4, .f), (3, .p 1), (2, .p 0)], [(1, .cells [.u a, .i i] 56), (0, .cells (mr W xs ys [.i s, .i b, .i l, .i p, .i q]) 31)], 4⟩ [True, True] ⟨trivial, trivial, trivial⟩ ?_
   by_cases h7 : 1 ≤ a / 4294967296 ∧ a / 4294967296 ≤ 2 ∧ a / 4294967296 - 1 = s
   ·
    refine pc (rtover_1 W xs ys s b l p q a (by omega) (by omega) (by omega) ‹_› ‹_› (by omega) (by omega) (by omega) ‹_› (by omega)) ?_
    refine rk [] 1 4 ⟨[(16, .t), (14, .u (ldw xs ys (a + 1))), (5, .t), (4, .f), (3, .p 1), (2, .p 0)], [(1, .cells [.u a, .i i] 56), (0, .cells (mr W xs ys [.i s, .i b, .i l, .i p, .i q]) 31)], 4⟩ [] trivial ?_
    refine en ?_
    refine an ?_
    refine xw_seq ?_
    refine xw_seq ?_
    refine reg ?_
    refine rk [(1, .bool ((ldw xs ys (a + 1)) != 0))] 3 0 ⟨[(78, .bool ((ldw xs ys (a + 1)) != 0)), (16, .t), (5, .t), (4, .f), (3, .p 1), (2, .p 0)], [(1, .cells [.u a, .i i] 56), (0, .cells (mr W xs ys [.i s, .i b, .i l, .i p, .i q]) 31)], 4⟩ [((ldw xs ys (a + 1)) != 0) = ((ldw xs ys (a + 1)) != 0)] ⟨rfl, trivial⟩ ?_
    refine splitr 78 (x := ((ldw xs ys (a + 1)) != 0)) (by kernel_rfl) (fun h8 => ?_) (fun h8 => ?_)
    ·
     replace h8 : (ldw xs ys (a + 1)) ≠ 0 := bne_iff_ne.1 h8
     refine rk [] 3 3 ⟨[(81, .f), (5, .t), (4, .f), (3, .p 1), (2, .p 0)], [(1, .cells [.u a, .i i] 56), (0, .cells (mr W xs ys [.i s, .i b, .i l, .i p, .i q]) 31)], 4⟩ [True] ⟨trivial, trivial⟩ ?_
     refine en ?_
     refine an ?_
     refine cf ?_
     refine xw_skip ?_
     refine an ?_
     refine xw_seq ?_
     refine reg ?_
     refine rk [] 2 0 ⟨[(85, .agg [.u a, .i i]), (84, .agg (mr W xs ys [.i s, .i b, .i l, .i p, .i q])), (5, .t), (4, .f), (2, .p 0)], [(0, .cells (mr W xs ys [.i s, .i b, .i l, .i p, .i q]) 31)], 4⟩ [True, True] ⟨trivial, trivial, trivial⟩ ?_
     refine pcall (args := [.agg (mr W xs ys [.i s, .i b, .i l, .i p, .i q]), .agg [.u a, .i i]]) (args' := [.agg (mr W xs ys [.i s, .i b, .i l, .i p, .i q]), .agg [.u a, .i i]]) (d := (some 86)) (by kernel_rfl) (one0 W xs ys s b l p q a i (by omega) (by omega) (by omega) ‹_› ‹_› (by omega) (by omega) (by omega) ‹_› ‹_› (by omega)) [(W : Int) = W, (false = true → false = true), ((m64 xs) : List SV) = (m64 xs), (false = true → false = true), ((m64 ys) : List SV) = (m64 ys), (s : Int) = s, (b : Int) = b, (l : Int) = l, (p : Int) = p, (q : Int) = q, (a : Int) = a, (i : Int) = i] (by kernel_rfl) ⟨rfl, id, rfl, id, rfl, rfl, rfl, rfl, rfl, rfl, rfl, rfl, trivial⟩ (by kernel_rfl) ?_
     rintro _ (⟨E19, h10, rfl⟩)
     ·
      refine rk [] 6 3 ⟨[(17, .p 4), (5, .t), (4, .f), (2, .p 0)], [(4, .cells (mr W xs ys [.i s, .i b, .i l, .i p, .i q]) 31), (0, .cells (mr W xs ys [.i s, .i b, .i l, .i p, .i q]) 31)], 5⟩ [True] ⟨trivial, trivial⟩ ?_
      refine en ?_
      refine an ?_
      refine xw_seq ?_
      refine reg ?_
      refine rk [] 4 0 ⟨[(92, .agg (mr W xs ys [.i s, .i b, .i l, .i p, .i q])), (91, .agg (mr W xs ys [.i s, .i b, .i l, .i p, .i q])), (90, .t), (4, .f)], [], 5⟩ [True, True] ⟨trivial, trivial, trivial⟩ ?_
      refine pc (rrsame_1 W xs ys s b l p q W xs ys s b l p q ‹_› ‹_› ‹_› ‹_› (by omega) (by omega) (by omega) (by omega) ‹_› ‹_› ‹_› ‹_› ‹_› ‹_› ‹_› ‹_› ‹_› ‹_› ‹_› ‹_› ⟨rfl, rfl, rfl, rfl, rfl, rfl, rfl, rfl⟩) ?_
      refine rk [] 2 5 ⟨[(4, .t)], [], 5⟩ [True] ⟨trivial, trivial⟩ ?_
      refine en ?_
      refine an ?_
      refine xw_ret ?_
      exact bs (.t) rfl
    ·
     replace h8 : (ldw xs ys (a + 1)) = 0 := bne_eq_false_iff_eq.1 h8
     refine rk [] 3 3 ⟨[(81, .f), (5, .t), (4, .f), (3, .p 1), (2, .p 0)], [(1, .cells [.u a, .i i] 56), (0, .cells (mr W xs ys [.i s, .i b, .i l, .i p, .i q]) 31)], 4⟩ [True] ⟨trivial, trivial⟩ ?_
     refine en ?_
     refine an ?_
     refine cf ?_
     refine xw_skip ?_
     refine an ?_
     refine xw_seq ?_
     refine reg ?_
     refine rk [] 2 0 ⟨[(85, .agg [.u a, .i i]), (84, .agg (mr W xs ys [.i s, .i b, .i l, .i p, .i q])), (5, .t), (4, .f), (2, .p 0)], [(0, .cells (mr W xs ys [.i s, .i b, .i l, .i p, .i q]) 31)], 4⟩ [True, True] ⟨trivial, trivial, trivial⟩ ?_
     refine pcall (args := [.agg (mr W xs ys [.i s, .i b, .i l, .i p, .i q]), .agg [.u a, .i i]]) (args' := [.agg (mr W xs ys [.i s, .i b, .i l, .i p, .i q]), .agg [.u a, .i i]]) (d := (some 86)) (by kernel_rfl) (one0 W xs ys s b l p q a i (by omega) (by omega) (by omega) ‹_› ‹_› (by omega) (by omega) (by omega) ‹_› ‹_› (by omega)) [(W : Int) = W, (false = true → false = true), ((m64 xs) : List SV) = (m64 xs), (false = true → false = true), ((m64 ys) : List SV) = (m64 ys), (s : Int) = s, (b : Int) = b, (l : Int) = l, (p : Int) = p, (q : Int) = q, (a : Int) = a, (i : Int) = i] (by kernel_rfl) ⟨rfl, id, rfl, id, rfl, rfl, rfl, rfl, rfl, rfl, rfl, rfl, trivial⟩ (by kernel_rfl) ?_
     rintro _ (⟨E19, h10, rfl⟩)
     ·
      refine rk [] 6 3 ⟨[(17, .p 4), (5, .t), (4, .f), (2, .p 0)], [(4, .cells (mr W xs ys [.i s, .i b, .i l, .i p, .i q]) 31), (0, .cells (mr W xs ys [.i s, .i b, .i l, .i p, .i q]) 31)], 5⟩ [True] ⟨trivial, trivial⟩ ?_
      refine en ?_
      refine an ?_
      refine xw_seq ?_
      refine reg ?_
      refine rk [] 4 0 ⟨[(92, .agg (mr W xs ys [.i s, .i b, .i l, .i p, .i q])), (91, .agg (mr W xs ys [.i s, .i b, .i l, .i p, .i q])), (90, .t), (4, .f)], [], 5⟩ [True, True] ⟨trivial, trivial, trivial⟩ ?_
      refine pc (rrsame_1 W xs ys s b l p q W xs ys s b l p q ‹_› ‹_› ‹_› ‹_› (by omega) (by omega) (by omega) (by omega) ‹_› ‹_› ‹_› ‹_› ‹_› ‹_› ‹_› ‹_› ‹_› ‹_› ‹_› ‹_› ⟨rfl, rfl, rfl, rfl, rfl, rfl, rfl, rfl⟩) ?_
      refine rk [] 2 5 ⟨[(4, .t)], [], 5⟩ [True] ⟨trivial, trivial⟩ ?_
      refine en ?_
      refine an ?_
      refine xw_ret ?_
      exact bs (.t) rfl
   ·
    refine pc (rtover_2 W xs ys s b l p q a (by omega) (by omega) (by omega) ‹_› ‹_› (by omega) (by omega) (by omega) ‹_› (by omega)) ?_
    refine rk [] 1 4 ⟨[(16, .f), (14, .u (ldw xs ys (a + 1))), (5, .t), (4, .f), (3, .p 1), (2, .p 0)], [(1, .cells [.u a, .i i] 56), (0, .cells (mr W xs ys [.i s, .i b, .i l, .i p, .i q]) 31)], 4⟩ [] trivial ?_
    refine en ?_
    refine an ?_
    refine xw_seq ?_
    refine xw_seq ?_
    refine reg ?_
    refine rk [(1, .bool ((ldw xs ys (a + 1)) != 0))] 3 0 ⟨[(78, .bool ((ldw xs ys (a + 1)) != 0)), (16, .f), (5, .t), (4, .f), (3, .p 1), (2, .p 0)], [(1, .cells [.u a, .i i] 56), (0, .cells (mr W xs ys [.i s, .i b, .i l, .i p, .i q]) 31)], 4⟩ [((ldw xs ys (a + 1)) != 0) = ((ldw xs ys (a + 1)) != 0)] ⟨rfl, trivial⟩ ?_
    refine splitr 78 (x := ((ldw xs ys (a + 1)) != 0)) (by kernel_rfl) (fun h8 => ?_) (fun h8 => ?_)
    ·
     replace h8 : (ldw xs ys (a + 1)) ≠ 0 := bne_iff_ne.1 h8
     refine rk [] 3 3 ⟨[(81, .t), (5, .t), (4, .f), (3, .p 1), (2, .p 0)], [(1, .cells [.u a, .i i] 56), (0, .cells (mr W xs ys [.i s, .i b, .i l, .i p, .i q]) 31)], 4⟩ [True] ⟨trivial, trivial⟩ ?_
     refine en ?_
     refine an ?_
     refine ct ?_
     refine rg [] 2 ⟨[(4, .t), (5, .t), (3, .p 1), (2, .p 0)], [(1, .cells [.u a, .i i] 56), (0, .cells (mr W xs ys [.i s, .i b, .i l, .i p, .i q]) 31)], 4⟩ [] trivial ?_
     refine xw_ret ?_
     refine an_ret ?_
     exact bs (.t) rfl
    ·
     replace h8 : (ldw xs ys (a + 1)) = 0 := bne_eq_false_iff_eq.1 h8
     refine rk [] 3 3 ⟨[(81, .f), (5, .t), (4, .f), (3, .p 1), (2, .p 0)], [(1, .cells [.u a, .i i] 56), (0, .cells (mr W xs ys [.i s, .i b, .i l, .i p, .i q]) 31)], 4⟩ [True] ⟨trivial, trivial⟩ ?_
     refine en ?_
     refine an ?_
     refine cf ?_
     refine xw_skip ?_
     refine an ?_
     refine xw_seq ?_
     refine reg ?_
     refine rk [] 2 0 ⟨[(85, .agg [.u a, .i i]), (84, .agg (mr W xs ys [.i s, .i b, .i l, .i p, .i q])), (5, .t), (4, .f), (2, .p 0)], [(0, .cells (mr W xs ys [.i s, .i b, .i l, .i p, .i q]) 31)], 4⟩ [True, True] ⟨trivial, trivial, trivial⟩ ?_
     refine pcall (args := [.agg (mr W xs ys [.i s, .i b, .i l, .i p, .i q]), .agg [.u a, .i i]]) (args' := [.agg (mr W xs ys [.i s, .i b, .i l, .i p, .i q]), .agg [.u a, .i i]]) (d := (some 86)) (by kernel_rfl) (one0 W xs ys s b l p q a i (by omega) (by omega) (by omega) ‹_› ‹_› (by omega) (by omega) (by omega) ‹_› ‹_› (by omega)) [(W : Int) = W, (false = true → false = true), ((m64 xs) : List SV) = (m64 xs), (false = true → false = true), ((m64 ys) : List SV) = (m64 ys), (s : Int) = s, (b : Int) = b, (l : Int) = l, (p : Int) = p, (q : Int) = q, (a : Int) = a, (i : Int) = i] (by kernel_rfl) ⟨rfl, id, rfl, id, rfl, rfl, rfl, rfl, rfl, rfl, rfl, rfl, trivial⟩ (by kernel_rfl) ?_
     rintro _ (⟨E19, h10, rfl⟩)
     ·
      refine rk [] 6 3 ⟨[(17, .p 4), (5, .t), (4, .f), (2, .p 0)], [(4, .cells (mr W xs ys [.i s, .i b, .i l, .i p, .i q]) 31), (0, .cells (mr W xs ys [.i s, .i b, .i l, .i p, .i q]) 31)], 5⟩ [True] ⟨trivial, trivial⟩ ?_
      refine en ?_
      refine an ?_
      refine xw_seq ?_
      refine reg ?_
      refine rk [] 4 0 ⟨[(92, .agg (mr W xs ys [.i s, .i b, .i l, .i p, .i q])), (91, .agg (mr W xs ys [.i s, .i b, .i l, .i p, .i q])), (90, .t), (4, .f)], [], 5⟩ [True, True] ⟨trivial, trivial, trivial⟩ ?_
      refine pc (rrsame_1 W xs ys s b l p q W xs ys s b l p q ‹_› ‹_› ‹_› ‹_› (by omega) (by omega) (by omega) (by omega) ‹_› ‹_› ‹_› ‹_› ‹_› ‹_› ‹_› ‹_› ‹_› ‹_› ‹_› ‹_› ⟨rfl, rfl, rfl, rfl, rfl, rfl, rfl, rfl⟩) ?_
      refine rk [] 2 5 ⟨[(4, .t)], [], 5⟩ [True] ⟨trivial, trivial⟩ ?_
      refine en ?_
      refine an ?_
      refine xw_ret ?_
      exact bs (.t) rfl
  ·
   by_cases h2 : ((oErr W xs ys a) = 0) ∧ ((ldw xs ys a / 72057594037927936) = 255)
   ·
    refine pc (rotwin_2 W xs ys a (by omega) (by omega) (by omega) ‹_› ‹_› ‹_› (by omega) (by omega)) ?_
    obtain ⟨h3, h4, h5⟩ := oErr_ok W xs ys a (by omega)
    refine rk [] 5 5 ⟨[(14, .u 0), (5, .t), (4, .f), (3, .p 1), (2, .p 0)], [(1, .cells [.u a, .i i] 56), (0, .cells (mr W xs ys [.i s, .i b, .i l, .i p, .i q]) 31)], 4⟩ [] trivial ?_
    refine en ?_
    refine an ?_
    refine xw_seq ?_
    refine reg ?_
    refine rk [] 3 0 ⟨[(74, .u a), (72, .agg (mr W xs ys [.i s, .i b, .i l, .i p, .i q])), (14, .u 0), (5, .t), (4, .f), (3, .p 1), (2, .p 0)], [(1, .cells [.u a, .i i] 56), (0, .cells (mr W xs ys [.i s, .i b, .i l, .i p, .i q]) 31)], 4⟩ [True, True] ⟨trivial, trivial, trivial⟩ ?_
    by_cases h6 : 1 ≤ a / 4294967296 ∧ a / 4294967296 ≤ 2 ∧ a / 4294967296 - 1 = s
    ·
     refine pc (rtover_1 W xs ys s b l p q a (by omega) (by omega) (by omega) ‹_› ‹_› (by omega) (by omega) (by omega) ‹_› (by omega)) ?_
     refine rk [] 1 4 ⟨[(16, .t), (14, .u 0), (5, .t), (4, .f), (3, .p 1), (2, .p 0)], [(1, .cells [.u a, .i i] 56), (0, .cells (mr W xs ys [.i s, .i b, .i l, .i p, .i q]) 31)], 4⟩ [] trivial ?_
     refine en ?_
     refine an ?_
     refine xw_seq ?_
     refine rg [(1, .f)] 6 ⟨[(81, .f), (5, .t), (4, .f), (3, .p 1), (2, .p 0)], [(1, .cells [.u a, .i i] 56), (0, .cells (mr W xs ys [.i s, .i b, .i l, .i p, .i q]) 31)], 4⟩ [(0 != 0) = false, True] ⟨bne_eq_false_iff_eq.2 (by omega), trivial, trivial⟩ ?_
     refine cf ?_
     refine xw_skip ?_
     refine an ?_
     refine xw_seq ?_
     refine reg ?_
     refine rk [] 2 0 ⟨[(85, .agg [.u a, .i i]), (84, .agg (mr W xs ys [.i s, .i b, .i l, .i p, .i q])), (5, .t), (4, .f), (2, .p 0)], [(0, .cells (mr W xs ys [.i s, .i b, .i l, .i p, .i q]) 31)], 4⟩ [True, True] ⟨trivial, trivial, trivial⟩ ?_
     refine pcall (args := [.agg (mr W xs ys [.i s, .i b, .i l, .i p, .i q]), .agg [.u a, .i i]]) (args' := [.agg (mr W xs ys [.i s, .i b, .i l, .i p, .i q]), .agg [.u a, .i i]]) (d := (some 86)) (by kernel_rfl) (one0 W xs ys s b l p q a i (by omega) (by omega) (by omega) ‹_› ‹_› (by omega) (by omega) (by omega) ‹_› ‹_› (by omega)) [(W : Int) = W, (false = true → false = true), ((m64 xs) : List SV) = (m64 xs), (false = true → false = true), ((m64 ys) : List SV) = (m64 ys), (s : Int) = s, (b : Int) = b, (l : Int) = l, (p : Int) = p, (q : Int) = q, (a : Int) = a, (i : Int) = i] (by kernel_rfl) ⟨rfl, id, rfl, id, rfl, rfl, rfl, rfl, rfl, rfl, rfl, rfl, trivial⟩ (by kernel_rfl) ?_
     rintro _ (⟨E17, h8, rfl⟩)
     ·
      refine rk [] 6 3 ⟨[(17, .p 4), (5, .t), (4, .f), (2, .p 0)], [(4, .cells (mr W xs ys [.i s, .i b, .i l, .i p, .i q]) 31), (0, .cells (mr W xs ys [.i s, .i b, .i l, .i p, .i q]) 31)], 5⟩ [True] ⟨trivial, trivial⟩ ?_
      refine en ?_
      refine an ?_
      refine xw_seq ?_
      refine reg ?_
      refine rk [] 4 0 ⟨[(92, .agg (mr W xs ys [.i s, .i b, .i l, .i p, .i q])), (91, .agg (mr W xs ys [.i s, .i b, .i l, .i p, .i q])), (90, .t), (4, .f)], [], 5⟩ [True, True] ⟨trivial, trivial, trivial⟩ ?_
      refine pc (rrsame_1 W xs ys s b l p q W xs ys s b l p q ‹_› ‹_› ‹_› ‹_› (by omega) (by omega) (by omega) (by omega) ‹_› ‹_› ‹_› ‹_› ‹_› ‹_› ‹_› ‹_› ‹_› ‹_› ‹_› ‹_› ⟨rfl, rfl, rfl, rfl, rfl, rfl, rfl, rfl⟩) ?_
      refine rk [] 2 5 ⟨[(4, .t)], [], 5⟩ [True] ⟨trivial, trivial⟩ ?_
      refine en ?_
      refine an ?_
      refine xw_ret ?_
      exact bs (.t) rfl
    ·
     refine pc (rtover_2 W xs ys s b l p q a (by omega) (by omega) (by omega) ‹_› ‹_› (by omega) (by omega) (by omega) ‹_› (by omega)) ?_
     refine rk [] 1 4 ⟨[(16, .f), (14, .u 0), (5, .t), (4, .f), (3, .p 1), (2, .p 0)], [(1, .cells [.u a, .i i] 56), (0, .cells (mr W xs ys [.i s, .i b, .i l, .i p, .i q]) 31)], 4⟩ [] trivial ?_
     refine en ?_
     refine an ?_
     refine xw_seq ?_
     refine rg [(1, .f)] 6 ⟨[(81, .f), (5, .t), (4, .f), (3, .p 1), (2, .p 0)], [(1, .cells [.u a, .i i] 56), (0, .cells (mr W xs ys [.i s, .i b, .i l, .i p, .i q]) 31)], 4⟩ [(0 != 0) = false, True] ⟨bne_eq_false_iff_eq.2 (by omega), trivial, trivial⟩ ?_
     refine cf ?_
     refine xw_skip ?_
     refine an ?_
     refine xw_seq ?_
     refine reg ?_
     refine rk [] 2 0 ⟨[(85, .agg [.u a, .i i]), (84, .agg (mr W xs ys [.i s, .i b, .i l, .i p, .i q])), (5, .t), (4, .f), (2, .p 0)], [(0, .cells (mr W xs ys [.i s, .i b, .i l, .i p, .i q]) 31)], 4⟩ [True, True] ⟨trivial, trivial, trivial⟩ ?_
     refine pcall (args := [.agg (mr W xs ys [.i s, .i b, .i l, .i p, .i q]), .agg [.u a, .i i]]) (args' := [.agg (mr W xs ys [.i s, .i b, .i l, .i p, .i q]), .agg [.u a, .i i]]) (d := (some 86)) (by kernel_rfl) (one0 W xs ys s b l p q a i (by omega) (by omega) (by omega) ‹_› ‹_› (by omega) (by omega) (by omega) ‹_› ‹_› (by omega)) [(W : Int) = W, (false = true → false = true), ((m64 xs) : List SV) = (m64 xs), (false = true → false = true), ((m64 ys) : List SV) = (m64 ys), (s : Int) = s, (b : Int) = b, (l : Int) = l, (p : Int) = p, (q : Int) = q, (a : Int) = a, (i : Int) = i] (by kernel_rfl) ⟨rfl, id, rfl, id, rfl, rfl, rfl, rfl, rfl, rfl, rfl, rfl, trivial⟩ (by kernel_rfl) ?_
     rintro _ (⟨E17, h8, rfl⟩)
     ·
      refine rk [] 6 3 ⟨[(17, .p 4), (5, .t), (4, .f), (2, .p 0)], [(4, .cells (mr W xs ys [.i s, .i b, .i l, .i p, .i q]) 31), (0, .cells (mr W xs ys [.i s, .i b, .i l, .i p, .i q]) 31)], 5⟩ [True] ⟨trivial, trivial⟩ ?_
      refine en ?_
      refine an ?_
      refine xw_seq ?_
      refine reg ?_
      refine rk [] 4 0 ⟨[(92, .agg (mr W xs ys [.i s, .i b, .i l, .i p, .i q])), (91, .agg (mr W xs ys [.i s, .i b, .i l, .i p, .i q])), (90, .t), (4, .f)], [], 5⟩ [True, True] ⟨trivial, trivial, trivial⟩ ?_
      refine pc (rrsame_1 W xs ys s b l p q W xs ys s b l p q ‹_› ‹_› ‹_› ‹_› (by omega) (by omega) (by omega) (by omega) ‹_› ‹_› ‹_› ‹_› ‹_› ‹_› ‹_› ‹_› ‹_› ‹_› ‹_› ‹_› ⟨rfl, rfl, rfl, rfl, rfl, rfl, rfl, rfl⟩) ?_
      refine rk [] 2 5 ⟨[(4, .t)], [], 5⟩ [True] ⟨trivial, trivial⟩ ?_
      refine en ?_
      refine an ?_
      refine xw_ret ?_
      exact bs (.t) rfl
   ·
    refine pc (rotwin_3 W xs ys a (by omega) (by omega) (by omega) ‹_› ‹_› ‹_› (by omega)) ?_
    have h3 : (oErr W xs ys a) = 2 ∨ (oErr W xs ys a) = 10 := oErr_no W xs ys a (by omega)
    refine rk [] 5 5 ⟨[(14, .u 0), (5, .t), (4, .f), (3, .p 1), (2, .p 0)], [(1, .cells [.u a, .i i] 56), (0, .cells (mr W xs ys [.i s, .i b, .i l, .i p, .i q]) 31)], 4⟩ [] trivial ?_
    refine en ?_
    refine an ?_
    refine xw_seq ?_
    refine reg ?_
    refine rk [] 3 0 ⟨[(74, .u a), (72, .agg (mr W xs ys [.i s, .i b, .i l, .i p, .i q])), (14, .u 0), (5, .t), (4, .f), (3, .p 1), (2, .p 0)], [(1, .cells [.u a, .i i] 56), (0, .cells (mr W xs ys [.i s, .i b, .i l, .i p, .i q]) 31)], 4⟩ [True, True] ⟨trivial, trivial, trivial⟩ ?_
    by_cases h4 : 1 ≤ a / 4294967296 ∧ a / 4294967296 ≤ 2 ∧ a / 4294967296 - 1 = s
    ·
     refine pc (rtover_1 W xs ys s b l p q a (by omega) (by omega) (by omega) ‹_› ‹_› (by omega) (by omega) (by omega) ‹_› (by omega)) ?_
     refine rk [] 1 4 ⟨[(16, .t), (14, .u 0), (5, .t), (4, .f), (3, .p 1), (2, .p 0)], [(1, .cells [.u a, .i i] 56), (0, .cells (mr W xs ys [.i s, .i b, .i l, .i p, .i q]) 31)], 4⟩ [] trivial ?_
     refine en ?_
     refine an ?_
     refine xw_seq ?_
     refine rg [(1, .f)] 6 ⟨[(81, .f), (5, .t), (4, .f), (3, .p 1), (2, .p 0)], [(1, .cells [.u a, .i i] 56), (0, .cells (mr W xs ys [.i s, .i b, .i l, .i p, .i q]) 31)], 4⟩ [(0 != 0) = false, True] ⟨bne_eq_false_iff_eq.2 (by omega), trivial, trivial⟩ ?_
     refine cf ?_
     refine xw_skip ?_
     refine an ?_
     refine xw_seq ?_
     refine reg ?_
     refine rk [] 2 0 ⟨[(85, .agg [.u a, .i i]), (84, .agg (mr W xs ys [.i s, .i b, .i l, .i p, .i q])), (5, .t), (4, .f), (2, .p 0)], [(0, .cells (mr W xs ys [.i s, .i b, .i l, .i p, .i q]) 31)], 4⟩ [True, True] ⟨trivial, trivial, trivial⟩ ?_
     refine pcall (args := [.agg (mr W xs ys [.i s, .i b, .i l, .i p, .i q]), .agg [.u a, .i i]]) (args' := [.agg (mr W xs ys [.i s, .i b, .i l, .i p, .i q]), .agg [.u a, .i i]]) (d := (some 86)) (by kernel_rfl) (one0 W xs ys s b l p q a i (by omega) (by omega) (by omega) ‹_› ‹_› (by omega) (by omega) (by omega) ‹_› ‹_› (by omega)) [(W : Int) = W, (false = true → false = true), ((m64 xs) : List SV) = (m64 xs), (false = true → false = true), ((m64 ys) : List SV) = (m64 ys), (s : Int) = s, (b : Int) = b, (l : Int) = l, (p : Int) = p, (q : Int) = q, (a : Int) = a, (i : Int) = i] (by kernel_rfl) ⟨rfl, id, rfl, id, rfl, rfl, rfl, rfl, rfl, rfl, rfl, rfl, trivial⟩ (by kernel_rfl) ?_
     rintro _ (⟨E15, h6, rfl⟩)
     ·
      refine rk [] 6 3 ⟨[(17, .p 4), (5, .t), (4, .f), (2, .p 0)], [(4, .cells (mr W xs ys [.i s, .i b, .i l, .i p, .i q]) 31), (0, .cells (mr W xs ys [.i s, .i b, .i l, .i p, .i q]) 31)], 5⟩ [True] ⟨trivial, trivial⟩ ?_
      refine en ?_
      refine an ?_
      refine xw_seq ?_
      refine reg ?_
      refine rk [] 4 0 ⟨[(92, .agg (mr W xs ys [.i s, .i b, .i l, .i p, .i q])), (91, .agg (mr W xs ys [.i s, .i b, .i l, .i p, .i q])), (90, .t), (4, .f)], [], 5⟩ [True, True] ⟨trivial, trivial, trivial⟩ ?_
      refine pc (rrsame_1 W xs ys s b l p q W xs ys s b l p q ‹_› ‹_› ‹_› ‹_› (by omega) (by omega) (by omega) (by omega) ‹_› ‹_› ‹_› ‹_› ‹_› ‹_› ‹_› ‹_› ‹_› ‹_› ‹_› ‹_› ⟨rfl, rfl, rfl, rfl, rfl, rfl, rfl, rfl⟩) ?_
      refine rk [] 2 5 ⟨[(4, .t)], [], 5⟩ [True] ⟨trivial, trivial⟩ ?_
      refine en ?_
      refine an ?_
      refine xw_ret ?_
      exact bs (.t) rfl
    ·
     refine pc (rtover_2 W xs ys s b l p q a (by omega) (by omega) (by omega) ‹_› ‹_› (by omega) (by omega) (by omega) ‹_› (by omega)) ?_
     refine rk [] 1 4 ⟨[(16, .f), (14, .u 0), (5, .t), (4, .f), (3, .p 1), (2, .p 0)], [(1, .cells [.u a, .i i] 56), (0, .cells (mr W xs ys [.i s, .i b, .i l, .i p, .i q]) 31)], 4⟩ [] trivial ?_
     refine en ?_
     refine an ?_
     refine xw_seq ?_
     refine rg [(1, .f)] 6 ⟨[(81, .f), (5, .t), (4, .f), (3, .p 1), (2, .p 0)], [(1, .cells [.u a, .i i] 56), (0, .cells (mr W xs ys [.i s, .i b, .i l, .i p, .i q]) 31)], 4⟩ [(0 != 0) = false, True] ⟨bne_eq_false_iff_eq.2 (by omega), trivial, trivial⟩ ?_
     refine cf ?_
     refine xw_skip ?_
     refine an ?_
     refine xw_seq ?_
     refine reg ?_
     refine rk [] 2 0 ⟨[(85, .agg [.u a, .i i]), (84, .agg (mr W xs ys [.i s, .i b, .i l, .i p, .i q])), (5, .t), (4, .f), (2, .p 0)], [(0, .cells (mr W xs ys [.i s, .i b, .i l, .i p, .i q]) 31)], 4⟩ [True, True] ⟨trivial, trivial, trivial⟩ ?_
     refine pcall (args := [.agg (mr W xs ys [.i s, .i b, .i l, .i p, .i q]), .agg [.u a, .i i]]) (args' := [.agg (mr W xs ys [.i s, .i b, .i l, .i p, .i q]), .agg [.u a, .i i]]) (d := (some 86)) (by kernel_rfl) (one0 W xs ys s b l p q a i (by omega) (by omega) (by omega) ‹_› ‹_› (by omega) (by omega) (by omega) ‹_› ‹_› (by omega)) [(W : Int) = W, (false = true → false = true), ((m64 xs) : List SV) = (m64 xs), (false = true → false = true), ((m64 ys) : List SV) = (m64 ys), (s : Int) = s, (b : Int) = b, (l : Int) = l, (p : Int) = p, (q : Int) = q, (a : Int) = a, (i : Int) = i] (by kernel_rfl) ⟨rfl, id, rfl, id, rfl, rfl, rfl, rfl, rfl, rfl, rfl, rfl, trivial⟩ (by kernel_rfl) ?_
     rintro _ (⟨E15, h6, rfl⟩)
     ·
      refine rk [] 6 3 ⟨[(17, .p 4), (5, .t), (4, .f), (2, .p 0)], [(4, .cells (mr W xs ys [.i s, .i b, .i l, .i p, .i q]) 31), (0, .cells (mr W xs ys [.i s, .i b, .i l, .i p, .i q]) 31)], 5⟩ [True] ⟨trivial, trivial⟩ ?_
      refine en ?_
      refine an ?_
      refine xw_seq ?_
      refine reg ?_
      refine rk [] 4 0 ⟨[(92, .agg (mr W xs ys [.i s, .i b, .i l, .i p, .i q])), (91, .agg (mr W xs ys [.i s, .i b, .i l, .i p, .i q])), (90, .t), (4, .f)], [], 5⟩ [True, True] ⟨trivial, trivial, trivial⟩ ?_
      refine pc (rrsame_1 W xs ys s b l p q W xs ys s b l p q ‹_› ‹_› ‹_› ‹_› (by omega) (by omega) (by omega) (by omega) ‹_› ‹_› ‹_› ‹_› ‹_› ‹_› ‹_› ‹_› ‹_› ‹_› ‹_› ‹_› ⟨rfl, rfl, rfl, rfl, rfl, rfl, rfl, rfl⟩) ?_
      refine rk [] 2 5 ⟨[(4, .t)], [], 5⟩ [True] ⟨trivial, trivial⟩ ?_
      refine en ?_
      refine an ?_
      refine xw_ret ?_
      exact bs (.t) rfl
 ·
  refine pc (few13_2 W xs ys s b l p q ‹_› ‹_› ‹_› ‹_› ‹_› ‹_› ‹_›) ?_
  refine rk [] 1 2 ⟨[(6, .f), (5, .t), (4, .f), (3, .p 1), (2, .p 0)], [(1, .cells [.u a, .i i] 56), (0, .cells (mr W xs ys [.i s, .i b, .i l, .i p, .i q]) 31)], 2⟩ [] trivial ?_
  refine en ?_
  refine an ?_
  refine xw_seq ?_
  refine rg [] 2 ⟨[(23, .t), (5, .t), (4, .f), (3, .p 1), (2, .p 0)], [(1, .cells [.u a, .i i] 56), (0, .cells (mr W xs ys [.i s, .i b, .i l, .i p, .i q]) 31)], 2⟩ [] trivial ?_
  refine ct ?_
  refine rg [] 2 ⟨[(4, .t), (5, .t), (3, .p 1), (2, .p 0)], [(1, .cells [.u a, .i i] 56), (0, .cells (mr W xs ys [.i s, .i b, .i l, .i p, .i q]) 31)], 2⟩ [] trivial ?_
  refine xw_ret ?_
  refine an_ret ?_
  exact bs (.t) rfl

end Go.Proofs.Ytkiaoafmlekndaa.X
