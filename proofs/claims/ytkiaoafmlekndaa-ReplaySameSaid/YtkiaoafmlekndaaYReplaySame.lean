/- Contracts of Go functions: what each returns, for every input that its premises name; no memory of the caller is touched. Printed by a program. -/
import Derived.Test.YtkiaoafmlekndaaXg3
import Derived.Test.YtkiaoafmlekndaaXg1
namespace Go.Proofs.Ytkiaoafmlekndaa.X
open Go Go.RowKit
set_option linter.unusedVariables false      -- a premise may serve only to tell which way is taken
set_option linter.unusedSimpArgs false
set_option maxHeartbeats 8000000 in
theorem replaySame (W : Int) (xs : List Int) (ys : List Int) (s : Int) (b : Int) (l : Int) (p : Int) (q : Int) (a : Int) (hp0 : -9223372036854775808 ≤ W ∧ W ≤ 9223372036854775807) (hp1 : U64s xs) (hp2 : U64s ys) (hp3 : -9223372036854775808 ≤ s ∧ s ≤ 9223372036854775807) (hp4 : -9223372036854775808 ≤ b ∧ b ≤ 9223372036854775807) (hp5 : -9223372036854775808 ≤ l ∧ l ≤ 9223372036854775807) (hp6 : -9223372036854775808 ≤ p ∧ p ≤ 9223372036854775807) (hp7 : -9223372036854775808 ≤ q ∧ q ≤ 9223372036854775807) (hp8 : 0 ≤ a ∧ a ≤ 18446744073709551615) : Pub Try.prog 3 [.agg (mr W xs ys [.int .i64 s, .int .i64 b, .int .i64 l, .int .i64 p, .int .i64 q]), .int .u64 a] (fun rv => rv = .bool true) := by
 refine pub_of TT_ok Try.func3 rfl (by decide) (Nat.le_of_ble_eq_true (by kernel_rfl)) (by kernel_rfl) ?_
 refine rg [] 2 ⟨[(4, .f), (2, .p 0), (1, .u a)], [(0, .cells (mr W xs ys [.i s, .i b, .i l, .i p, .i q]) 31)], 1⟩ [] trivial ?_
 refine xw_seq ?_
 refine reg ?_
 refine pc (shown13 ) ?_
 refine rk [] 1 1 ⟨[(5, .t), (4, .f), (2, .p 0), (1, .u a)], [(0, .cells (mr W xs ys [.i s, .i b, .i l, .i p, .i q]) 31)], 1⟩ [] trivial ?_
 refine en ?_
 refine an ?_
 refine xw_seq ?_
 refine reg ?_
 refine rk [] 1 0 ⟨[(17, .agg (mr W xs ys [.i s, .i b, .i l, .i p, .i q])), (5, .t), (4, .f), (2, .p 0), (1, .u a)], [(0, .cells (mr W xs ys [.i s, .i b, .i l, .i p, .i q]) 31)], 1⟩ [True] ⟨trivial, trivial⟩ ?_
 by_cases h0 : 16 ≤ W ∧ W ≤ 4096 ∧ (xs.length : Int) = W ∧ (ys.length : Int) = W ∧ (s = 0 ∨ s = 1) ∧ 0 ≤ b ∧ b ≤ l ∧ l ≤ 4096 ∧ l = W ∧ ((p = 0 ∧ q = 0) ∨ (0 ≤ p ∧ p ≤ q ∧ q ≤ b)) ∧ W ≤ 200
 ·
  refine pc (few13_1 W xs ys s b l p q ‹_› ‹_› ‹_› ‹_› ‹_› ‹_› ‹_›) ?_
  refine rk [] 1 2 ⟨[(6, .t), (5, .t), (4, .f), (2, .p 0), (1, .u a)], [(0, .cells (mr W xs ys [.i s, .i b, .i l, .i p, .i q]) 31)], 1⟩ [] trivial ?_
  refine en ?_
  refine an ?_
  refine xw_seq ?_
  refine xw_seq ?_
  refine reg ?_
  refine rk [(4, .bool (a == 0))] 7 0 ⟨[(25, .bool (a == 0)), (5, .t), (4, .f), (2, .p 0), (1, .u a)], [(0, .cells (mr W xs ys [.i s, .i b, .i l, .i p, .i q]) 31)], 1⟩ [(a == 0) = (a == 0), True] ⟨rfl, trivial, trivial⟩ ?_
  refine splitr 25 (x := (a == 0)) (by kernel_rfl) (fun h1 => ?_) (fun h1 => ?_)
  ·
   replace h1 : a = 0 := eq_of_beq h1
   refine rk [] 4 7 ⟨[(29, .t), (5, .t), (4, .f), (2, .p 0), (1, .u a)], [(0, .cells (mr W xs ys [.i s, .i b, .i l, .i p, .i q]) 31)], 1⟩ [True] ⟨trivial, trivial⟩ ?_
   refine en ?_
   refine an ?_
   refine ct ?_
   refine rg [] 2 ⟨[(4, .t), (5, .t), (2, .p 0), (1, .u a)], [(0, .cells (mr W xs ys [.i s, .i b, .i l, .i p, .i q]) 31)], 1⟩ [] trivial ?_
   refine xw_ret ?_
   refine an_ret ?_
   exact bs (.t) rfl
  ·
   replace h1 : a ≠ 0 := ne_of_beq_false h1
   refine rk [] 2 7 ⟨[(27, .u a), (26, .agg (mr W xs ys [.i s, .i b, .i l, .i p, .i q])), (25, .f), (5, .t), (4, .f), (2, .p 0), (1, .u a)], [(0, .cells (mr W xs ys [.i s, .i b, .i l, .i p, .i q]) 31)], 1⟩ [True] ⟨trivial, trivial⟩ ?_
   by_cases h2 : a = 0 ∨ ((oErr W xs ys a) = 0 ∧ (ldw xs ys a / 72057594037927936) ≠ 255 ∧ ((1 ≤ a / 4294967296 ∧ a / 4294967296 ≤ 2 ∧ a / 4294967296 - 1 = s) ∨ (ldw xs ys (a + 1)) ≠ 0))
   ·
    refine pc (rtmade_1 W xs ys s b l p q a (by omega) (by omega) (by omega) ‹_› ‹_› (by omega) (by omega) (by omega) ‹_› (by omega)) ?_
    refine rk [] 1 10 ⟨[(29, .t), (5, .t), (4, .f), (2, .p 0), (1, .u a)], [(0, .cells (mr W xs ys [.i s, .i b, .i l, .i p, .i q]) 31)], 1⟩ [True] ⟨trivial, trivial⟩ ?_
    refine en ?_
    refine an ?_
    refine ct ?_
    refine rg [] 2 ⟨[(4, .t), (5, .t), (2, .p 0), (1, .u a)], [(0, .cells (mr W xs ys [.i s, .i b, .i l, .i p, .i q]) 31)], 1⟩ [] trivial ?_
    refine xw_ret ?_
    refine an_ret ?_
    exact bs (.t) rfl
   ·
    refine pc (rtmade_2 W xs ys s b l p q a (by omega) (by omega) (by omega) ‹_› ‹_› (by omega) (by omega) (by omega) ‹_› (by omega)) ?_
    refine rk [] 1 10 ⟨[(29, .f), (5, .t), (4, .f), (2, .p 0), (1, .u a)], [(0, .cells (mr W xs ys [.i s, .i b, .i l, .i p, .i q]) 31)], 1⟩ [True] ⟨trivial, trivial⟩ ?_
    refine en ?_
    refine an ?_
    refine cf ?_
    refine xw_skip ?_
    refine an ?_
    refine xw_seq ?_
    refine reg ?_
    refine rk [] 3 0 ⟨[(34, .u a), (33, .agg (mm W xs ys)), (5, .t), (4, .f), (2, .p 0), (1, .u a)], [(0, .cells (mr W xs ys [.i s, .i b, .i l, .i p, .i q]) 31)], 1⟩ [True] ⟨trivial, trivial⟩ ?_
    by_cases h3 : (oErr W xs ys a) = 0
    ·
     refine pc (roat_1 W xs ys a (by omega) (by omega) (by omega) ‹_› ‹_› ‹_› ‹_›) ?_
     obtain ⟨h4, h5, h6⟩ := oErr_ok W xs ys a ‹_›
     refine rk [] 6 4 ⟨[(8, .i 0), (7, .p 1), (5, .t), (4, .f), (2, .p 0), (1, .u a)], [(1, .cells [.i (hT xs ys a), .i (hL xs ys a), .u (hM xs ys a)] 37), (0, .cells (mr W xs ys [.i s, .i b, .i l, .i p, .i q]) 31)], 2⟩ [True] ⟨trivial, trivial⟩ ?_
     refine en ?_
     refine an ?_
     refine xw_seq ?_
     refine rg [] 1 ⟨[(9, .i 0), (8, .i 0), (7, .p 1), (5, .t), (4, .f), (2, .p 0), (1, .u a)], [(1, .cells [.i (hT xs ys a), .i (hL xs ys a), .u (hM xs ys a)] 37), (0, .cells (mr W xs ys [.i s, .i b, .i l, .i p, .i q]) 31)], 2⟩ [] trivial ?_
     refine xw_block ?_
     refine xw_loop (α := {qq : Int // (0 ≤ qq) ∧ (qq ≤ ((ldw xs ys a / 4294967296) % 16777216)) ∧ ((ldw xs ys a / 72057594037927936) = 255 ∨ (nP xs ys a ((ldw xs ys a / 4294967296) % 16777216) (ldw xs ys a % 4294967296) qq) = 1)}) (fun pp => ⟨[(9, .i pp.1), (8, .i 0), (7, .p 1), (5, .t), (4, .f), (2, .p 0), (1, .u a)], [(1, .cells [.i (hT xs ys a), .i (hL xs ys a), .u (hM xs ys a)] 37), (0, .cells (mr W xs ys [.i s, .i b, .i l, .i p, .i q]) 31)], 2⟩) (fun pp => (((ldw xs ys a / 4294967296) % 16777216) - pp.1).toNat) ⟨0, ⟨(by omega), (by omega), (by first | omega | exact Or.inr (nP_0 rfl) | exact Or.inr (nP_next (i := i1) (by omega) (by omega) (by first | exact .inl ‹_› | exact .inr (by omega)) rfl))⟩⟩ (le_of [] [(0 : Int) = 0, (0 : Int) = 0, true = true, false = false, (a : Int) = a, ((ldw xs ys a / 72057594037927936) : Int) = (ldw xs ys a / 72057594037927936), (((ldw xs ys a / 4294967296) % 16777216) : Int) = ((ldw xs ys a / 4294967296) % 16777216), ((ldw xs ys a % 4294967296) : Int) = (ldw xs ys a % 4294967296), (W : Int) = W, (false = true → false = true), ((m64 xs) : List SV) = (m64 xs), (false = true → false = true), ((m64 ys) : List SV) = (m64 ys), (s : Int) = s, (b : Int) = b, (l : Int) = l, (p : Int) = p, (q : Int) = q] (by kernel_rfl) ⟨rfl, rfl, rfl, rfl, rfl, rfl, rfl, rfl, rfl, id, rfl, id, rfl, rfl, rfl, rfl, rfl, rfl, trivial⟩) ?_
     rintro ⟨i1, h7, h8, h9⟩
     show XW _ _ _ _ _ ⟨[(9, .int .i64 i1), (8, .int .i64 0), (7, .loc 1 0), (5, .bool true), (4, .bool false), (2, .loc 0 0), (1, .int .u64 a)], [(1, .cells [.int .i64 (ldw xs ys a / 72057594037927936), .int .i64 ((ldw xs ys a / 4294967296) % 16777216), .int .u64 (ldw xs ys a % 4294967296)] 37), (0, .cells (mr W xs ys [.int .i64 s, .int .i64 b, .int .i64 l, .int .i64 p, .int .i64 q]) 31)], 2⟩
     refine xw_seq ?_
     refine xw_seq ?_
     refine reg ?_
     refine rk [(3, .bool (decide (i1 < ((ldw xs ys a / 4294967296) % 16777216))))] 5 0 ⟨[(42, .bool (decide (i1 < (hL xs ys a)))), (9, .i i1), (8, .i 0), (7, .p 1), (5, .t), (4, .f), (2, .p 0), (1, .u a)], [(1, .cells [.i (hT xs ys a), .i (hL xs ys a), .u (hM xs ys a)] 37), (0, .cells (mr W xs ys [.i s, .i b, .i l, .i p, .i q]) 31)], 2⟩ [True, (decide (i1 < ((ldw xs ys a / 4294967296) % 16777216))) = (decide (i1 < ((ldw xs ys a / 4294967296) % 16777216)))] ⟨trivial, rfl, trivial⟩ ?_
     refine splitr 42 (x := (decide (i1 < ((ldw xs ys a / 4294967296) % 16777216)))) (by kernel_rfl) (fun h10 => ?_) (fun h10 => ?_)
     ·
      replace h10 : i1 < ((ldw xs ys a / 4294967296) % 16777216) := of_decide_eq_true h10
      refine rk [(6, .t)] 3 5 ⟨[(45, .t), (9, .i i1), (8, .i 0), (7, .p 1), (5, .t), (4, .f), (2, .p 0), (1, .u a)], [(1, .cells [.i (hT xs ys a), .i (hL xs ys a), .u (hM xs ys a)] 37), (0, .cells (mr W xs ys [.i s, .i b, .i l, .i p, .i q]) 31)], 2⟩ [(0 == 0) = true, True] ⟨beq_iff_eq.2 (by omega), trivial, trivial⟩ ?_
      refine en ?_
      refine an ?_
      refine ct ?_
      refine xw_skip ?_
      refine an ?_
      refine xw_seq ?_
      refine xw_block ?_
      refine xw_seq ?_
      refine reg ?_
      refine rk [] 4 0 ⟨[(52, .i i1), (51, .u a), (50, .agg (mm W xs ys)), (9, .i i1), (8, .i 0), (7, .p 1), (5, .t), (4, .f), (2, .p 0), (1, .u a)], [(1, .cells [.i (hT xs ys a), .i (hL xs ys a), .u (hM xs ys a)] 37), (0, .cells (mr W xs ys [.i s, .i b, .i l, .i p, .i q]) 31)], 2⟩ [True] ⟨trivial, trivial⟩ ?_
      by_cases h11 : (ldw xs ys a / 72057594037927936) ≠ 255
      ·
       refine pc (roget_1 W xs ys a i1 (by omega) (by omega) (by omega) ‹_› ‹_› ‹_› (by omega) ‹_› ‹_› (by omega)) ?_
       have h12 : 0 ≤ (ldw xs ys (a + 2 + i1)) ∧ (ldw xs ys (a + 2 + i1)) ≤ 18446744073709551615 := ldw_ok xs ys (a + 2 + i1) ‹_› ‹_›
       have h13 : 1 ≤ (a + 2 + i1) / 4294967296 ∧ (a + 2 + i1) / 4294967296 ≤ 2 ∧ (a + 2 + i1) % 4294967296 < W := by omega
       refine rk [] 7 5 ⟨[(11, .bool (isPtr (hL xs ys a) (hM xs ys a) i1)), (10, .u (ldw xs ys (a + 2 + i1))), (9, .i i1), (8, .i 0), (7, .p 1), (5, .t), (4, .f), (2, .p 0), (1, .u a)], [(1, .cells [.i (hT xs ys a), .i (hL xs ys a), .u (hM xs ys a)] 37), (0, .cells (mr W xs ys [.i s, .i b, .i l, .i p, .i q]) 31)], 2⟩ [] trivial ?_
       refine en ?_
       refine an ?_
       refine xw_seq ?_
       refine reg ?_
       refine rk [] 2 0 ⟨[(58, .bool (isPtr (hL xs ys a) (hM xs ys a) i1)), (10, .u (ldw xs ys (a + 2 + i1))), (9, .i i1), (8, .i 0), (7, .p 1), (5, .t), (4, .f), (2, .p 0), (1, .u a)], [(1, .cells [.i (hT xs ys a), .i (hL xs ys a), .u (hM xs ys a)] 37), (0, .cells (mr W xs ys [.i s, .i b, .i l, .i p, .i q]) 31)], 2⟩ [] trivial ?_
       refine splitr 58 (x := (isPtr ((ldw xs ys a / 4294967296) % 16777216) (ldw xs ys a % 4294967296) i1)) (by kernel_rfl) (fun h14 => ?_) (fun h14 => ?_)
       ·
        replace h14 : isPtr ((ldw xs ys a / 4294967296) % 16777216) (ldw xs ys a % 4294967296) i1 = true := h14
        refine rk [(3, .bool ((ldw xs ys (a + 2 + i1)) != 0))] 3 2 ⟨[(61, .bool ((ldw xs ys (a + 2 + i1)) != 0)), (9, .i i1), (8, .i 0), (7, .p 1), (5, .t), (4, .f), (2, .p 0), (1, .u a)], [(1, .cells [.i (hT xs ys a), .i (hL xs ys a), .u (hM xs ys a)] 37), (0, .cells (mr W xs ys [.i s, .i b, .i l, .i p, .i q]) 31)], 2⟩ [((ldw xs ys (a + 2 + i1)) != 0) = ((ldw xs ys (a + 2 + i1)) != 0), True] ⟨rfl, trivial, trivial⟩ ?_
        refine en ?_
        refine an ?_
        refine xw_cond (b := ((ldw xs ys (a + 2 + i1)) != 0)) (by kernel_rfl) (fun h15 => ?_) (fun h15 => ?_)
        ·
         replace h15 : (ldw xs ys (a + 2 + i1)) ≠ 0 := bne_iff_ne.1 h15
         refine rg [] 2 ⟨[(4, .t), (9, .i i1), (8, .i 0), (7, .p 1), (5, .t), (2, .p 0), (1, .u a)], [(1, .cells [.i (hT xs ys a), .i (hL xs ys a), .u (hM xs ys a)] 37), (0, .cells (mr W xs ys [.i s, .i b, .i l, .i p, .i q]) 31)], 2⟩ [] trivial ?_
         refine xw_ret ?_
         refine ib_ret ?_
         refine an_ret ?_
         refine ag_ret ?_
         refine ib_ret ?_
         refine an_ret ?_
         exact bs (.t) rfl
        ·
         replace h15 : (ldw xs ys (a + 2 + i1)) = 0 := bne_eq_false_iff_eq.1 h15
         refine xw_skip ?_
         refine ib ?_
         refine an ?_
         refine re [(1, .i (i1 + 1))] 3 ⟨[(9, .i (i1 + 1)), (8, .i 0), (7, .p 1), (5, .t), (4, .f), (2, .p 0), (1, .u a)], [(1, .cells [.i (hT xs ys a), .i (hL xs ys a), .u (hM xs ys a)] 37), (0, .cells (mr W xs ys [.i s, .i b, .i l, .i p, .i q]) 31)], 2⟩ [IntKind.i64.wrap (i1 + 1) = (i1 + 1)] ⟨i64_eq (by omega) (by omega), trivial⟩ ?_
         exact ag ⟨(i1 + 1), ⟨(by omega), (by omega), (by first | omega | exact Or.inr (nP_0 rfl) | exact Or.inr (nP_next (i := i1) (by omega) (by omega) (by first | exact .inl ‹_› | exact .inr (by omega)) rfl))⟩⟩ (le_of [] [((i1 + 1) : Int) = (i1 + 1), (0 : Int) = 0, true = true, false = false, (a : Int) = a, ((ldw xs ys a / 72057594037927936) : Int) = (ldw xs ys a / 72057594037927936), (((ldw xs ys a / 4294967296) % 16777216) : Int) = ((ldw xs ys a / 4294967296) % 16777216), ((ldw xs ys a % 4294967296) : Int) = (ldw xs ys a % 4294967296), (W : Int) = W, (false = true → false = true), ((m64 xs) : List SV) = (m64 xs), (false = true → false = true), ((m64 ys) : List SV) = (m64 ys), (s : Int) = s, (b : Int) = b, (l : Int) = l, (p : Int) = p, (q : Int) = q] (by kernel_rfl) ⟨rfl, rfl, rfl, rfl, rfl, rfl, rfl, rfl, rfl, id, rfl, id, rfl, rfl, rfl, rfl, rfl, rfl, trivial⟩) (by show (((ldw xs ys a / 4294967296) % 16777216) - (i1 + 1)).toNat < (((ldw xs ys a / 4294967296) % 16777216) - i1).toNat; omega)
       ·
        replace h14 : isPtr ((ldw xs ys a / 4294967296) % 16777216) (ldw xs ys a % 4294967296) i1 = false := h14
        refine rk [] 3 2 ⟨[(61, .f), (9, .i i1), (8, .i 0), (7, .p 1), (5, .t), (4, .f), (2, .p 0), (1, .u a)], [(1, .cells [.i (hT xs ys a), .i (hL xs ys a), .u (hM xs ys a)] 37), (0, .cells (mr W xs ys [.i s, .i b, .i l, .i p, .i q]) 31)], 2⟩ [True] ⟨trivial, trivial⟩ ?_
        refine en ?_
        refine an ?_
        refine cf ?_
        refine xw_skip ?_
        refine ib ?_
        refine an ?_
        refine re [(1, .i (i1 + 1))] 3 ⟨[(9, .i (i1 + 1)), (8, .i 0), (7, .p 1), (5, .t), (4, .f), (2, .p 0), (1, .u a)], [(1, .cells [.i (hT xs ys a), .i (hL xs ys a), .u (hM xs ys a)] 37), (0, .cells (mr W xs ys [.i s, .i b, .i l, .i p, .i q]) 31)], 2⟩ [IntKind.i64.wrap (i1 + 1) = (i1 + 1)] ⟨i64_eq (by omega) (by omega), trivial⟩ ?_
        exact ag ⟨(i1 + 1), ⟨(by omega), (by omega), (by first | omega | exact Or.inr (nP_0 rfl) | exact Or.inr (nP_next (i := i1) (by omega) (by omega) (by first | exact .inl ‹_› | exact .inr (by omega)) rfl))⟩⟩ (le_of [] [((i1 + 1) : Int) = (i1 + 1), (0 : Int) = 0, true = true, false = false, (a : Int) = a, ((ldw xs ys a / 72057594037927936) : Int) = (ldw xs ys a / 72057594037927936), (((ldw xs ys a / 4294967296) % 16777216) : Int) = ((ldw xs ys a / 4294967296) % 16777216), ((ldw xs ys a % 4294967296) : Int) = (ldw xs ys a % 4294967296), (W : Int) = W, (false = true → false = true), ((m64 xs) : List SV) = (m64 xs), (false = true → false = true), ((m64 ys) : List SV) = (m64 ys), (s : Int) = s, (b : Int) = b, (l : Int) = l, (p : Int) = p, (q : Int) = q] (by kernel_rfl) ⟨rfl, rfl, rfl, rfl, rfl, rfl, rfl, rfl, rfl, id, rfl, id, rfl, rfl, rfl, rfl, rfl, rfl, trivial⟩) (by show (((ldw xs ys a / 4294967296) % 16777216) - (i1 + 1)).toNat < (((ldw xs ys a / 4294967296) % 16777216) - i1).toNat; omega)
      ·
       refine pc (roget_3 W xs ys a i1 (by omega) (by omega) (by omega) ‹_› ‹_› ‹_› (by omega) ‹_› (by omega)) ?_
       refine rk [] 7 5 ⟨[(11, .f), (10, .u 0), (9, .i i1), (8, .i 0), (7, .p 1), (5, .t), (4, .f), (2, .p 0), (1, .u a)], [(1, .cells [.i (hT xs ys a), .i (hL xs ys a), .u (hM xs ys a)] 37), (0, .cells (mr W xs ys [.i s, .i b, .i l, .i p, .i q]) 31)], 2⟩ [] trivial ?_
       refine en ?_
       refine an ?_
       refine rg [] 5 ⟨[(61, .f), (9, .i i1), (8, .i 0), (7, .p 1), (5, .t), (4, .f), (2, .p 0), (1, .u a)], [(1, .cells [.i (hT xs ys a), .i (hL xs ys a), .u (hM xs ys a)] 37), (0, .cells (mr W xs ys [.i s, .i b, .i l, .i p, .i q]) 31)], 2⟩ [True] ⟨trivial, trivial⟩ ?_
       refine cf ?_
       refine xw_skip ?_
       refine ib ?_
       refine an ?_
       refine re [(1, .i (i1 + 1))] 3 ⟨[(9, .i (i1 + 1)), (8, .i 0), (7, .p 1), (5, .t), (4, .f), (2, .p 0), (1, .u a)], [(1, .cells [.i (hT xs ys a), .i (hL xs ys a), .u (hM xs ys a)] 37), (0, .cells (mr W xs ys [.i s, .i b, .i l, .i p, .i q]) 31)], 2⟩ [IntKind.i64.wrap (i1 + 1) = (i1 + 1)] ⟨i64_eq (by omega) (by omega), trivial⟩ ?_
       exact ag ⟨(i1 + 1), ⟨(by omega), (by omega), (by omega)⟩⟩ (le_of [] [((i1 + 1) : Int) = (i1 + 1), (0 : Int) = 0, true = true, false = false, (a : Int) = a, ((ldw xs ys a / 72057594037927936) : Int) = (ldw xs ys a / 72057594037927936), (((ldw xs ys a / 4294967296) % 16777216) : Int) = ((ldw xs ys a / 4294967296) % 16777216), ((ldw xs ys a % 4294967296) : Int) = (ldw xs ys a % 4294967296), (W : Int) = W, (false = true → false = true), ((m64 xs) : List SV) = (m64 xs), (false = true → false = true), ((m64 ys) : List SV) = (m64 ys), (s : Int) = s, (b : Int) = b, (l : Int) = l, (p : Int) = p, (q : Int) = q] (by kernel_rfl) ⟨rfl, rfl, rfl, rfl, rfl, rfl, rfl, rfl, rfl, id, rfl, id, rfl, rfl, rfl, rfl, rfl, rfl, trivial⟩) (by show (((ldw xs ys a / 4294967296) % 16777216) - (i1 + 1)).toNat < (((ldw xs ys a / 4294967296) % 16777216) - i1).toNat; omega)
     ·
      replace h10 : ¬ (i1 < ((ldw xs ys a / 4294967296) % 16777216)) := of_decide_eq_false h10
      refine rk [] 3 5 ⟨[(45, .f), (9, .i i1), (8, .i 0), (7, .p 1), (5, .t), (4, .f), (2, .p 0), (1, .u a)], [(1, .cells [.i (hT xs ys a), .i (hL xs ys a), .u (hM xs ys a)] 37), (0, .cells (mr W xs ys [.i s, .i b, .i l, .i p, .i q]) 31)], 2⟩ [True] ⟨trivial, trivial⟩ ?_
      refine en ?_
      refine an ?_
      refine cf ?_
      refine xw_exit ?_
      refine an_exit ?_
      refine ag_exit ?_
      refine ib_same ?_
      refine an ?_
      refine xw_seq ?_
      refine reg ?_
      refine rk [] 2 0 ⟨[(65, .u a), (64, .agg (mr W xs ys [.i s, .i b, .i l, .i p, .i q])), (5, .t), (4, .f), (2, .p 0), (1, .u a)], [(0, .cells (mr W xs ys [.i s, .i b, .i l, .i p, .i q]) 31)], 2⟩ [True] ⟨trivial, trivial⟩ ?_
      by_cases h11 : (ldw xs ys a / 72057594037927936) = 255
      ·
       refine pc (rtto_3 W xs ys s b l p q a (by omega) (by omega) (by omega) ‹_› ‹_› (by omega) (by omega) (by omega) ‹_› ‹_› ‹_› ‹_›) ?_
       refine rk [] 8 3 ⟨[(15, .i 8), (13, .p 2), (5, .t), (4, .f), (2, .p 0), (1, .u a)], [(2, .cells (mr W xs ys [.i s, .i b, .i l, .i p, .i q]) 31), (0, .cells (mr W xs ys [.i s, .i b, .i l, .i p, .i q]) 31)], 3⟩ [True] ⟨trivial, trivial⟩ ?_
       refine en ?_
       refine an ?_
       refine xw_seq ?_
       refine rg [(1, .t)] 2 ⟨[(71, .t), (13, .p 2), (5, .t), (4, .f), (2, .p 0), (1, .u a)], [(2, .cells (mr W xs ys [.i s, .i b, .i l, .i p, .i q]) 31), (0, .cells (mr W xs ys [.i s, .i b, .i l, .i p, .i q]) 31)], 3⟩ [(8 != 0) = true] ⟨bne_iff_ne.2 (by omega), trivial⟩ ?_
       refine ct ?_
       refine xw_seq ?_
       refine dregk hmix (by kernel_rfl) ?_
       refine qr [] 4 0 [(75, .u a), (74, .agg (mr W xs ys [.i s, .i b, .i l, .i p, .i q])), (73, .t), (72, .t), (71, .t), (13, .p 2), (5, .t), (4, .f), (2, .p 0), (1, .u a)] [True] ⟨trivial, trivial⟩ ?_
       refine qc (rpsame_2 W xs ys s b l p q a (by omega) (by omega) (by omega) ‹_› ‹_› (by omega) (by omega) (by omega) ‹_› (by omega)) ?_
       refine qr [] 2 5 [(78, .u a), (77, .agg (mr W xs ys [.i s, .i b, .i l, .i p, .i q])), (76, .f), (75, .u a), (74, .agg (mr W xs ys [.i s, .i b, .i l, .i p, .i q])), (73, .t), (72, .t), (71, .t), (13, .p 2), (5, .t), (4, .f), (2, .p 0), (1, .u a)] [True] ⟨trivial, trivial⟩ ?_
       refine qc (rrpsame_2 W xs ys s b l p q a (by omega) (by omega) (by omega) ‹_› ‹_› (by omega) (by omega) (by omega) ‹_› (by omega)) ?_
       refine qr [(8, .t)] 3 8 [(4, .t), (81, .t), (80, .t), (79, .f), (78, .u a), (77, .agg (mr W xs ys [.i s, .i b, .i l, .i p, .i q])), (76, .f), (75, .u a), (74, .agg (mr W xs ys [.i s, .i b, .i l, .i p, .i q])), (73, .t), (72, .t), (71, .t), (13, .p 2), (5, .t), (4, .f), (2, .p 0), (1, .u a)] [(false == false) = true, True] ⟨rfl, trivial, trivial⟩ ?_
       refine qen ?_
       refine an ?_
       refine xw_ret ?_
       refine an_ret ?_
       exact bs (.t) rfl
      ·
       by_cases h12 : l - b < (((ldw xs ys a / 4294967296) % 16777216) + 2)
       ·
        refine pc (rtto_7 W xs ys s b l p q a (by omega) (by omega) (by omega) ‹_› ‹_› (by omega) (by omega) (by omega) ‹_› ‹_› ‹_› (by omega) (by omega) (by omega) ‹_›) ?_
        have h13 : 1 ≤ (a + 1) / 4294967296 ∧ (a + 1) / 4294967296 ≤ 2 ∧ (a + 1) % 4294967296 < W := by omega
        have h14 : 0 ≤ (ldw xs ys (a + 1)) ∧ (ldw xs ys (a + 1)) ≤ 18446744073709551615 := ldw_ok xs ys (a + 1) ‹_› ‹_›
        refine rk [] 8 3 ⟨[(15, .i 4), (13, .p 2), (5, .t), (4, .f), (2, .p 0), (1, .u a)], [(2, .cells (mr W xs ys [.i s, .i b, .i l, .i p, .i q]) 31), (0, .cells (mr W xs ys [.i s, .i b, .i l, .i p, .i q]) 31)], 3⟩ [True] ⟨trivial, trivial⟩ ?_
        refine en ?_
        refine an ?_
        refine xw_seq ?_
        refine rg [(1, .t)] 2 ⟨[(71, .t), (13, .p 2), (5, .t), (4, .f), (2, .p 0), (1, .u a)], [(2, .cells (mr W xs ys [.i s, .i b, .i l, .i p, .i q]) 31), (0, .cells (mr W xs ys [.i s, .i b, .i l, .i p, .i q]) 31)], 3⟩ [(4 != 0) = true] ⟨bne_iff_ne.2 (by omega), trivial⟩ ?_
        refine ct ?_
        refine xw_seq ?_
        refine dregk hmix (by kernel_rfl) ?_
        refine qr [] 4 0 [(75, .u a), (74, .agg (mr W xs ys [.i s, .i b, .i l, .i p, .i q])), (73, .t), (72, .t), (71, .t), (13, .p 2), (5, .t), (4, .f), (2, .p 0), (1, .u a)] [True] ⟨trivial, trivial⟩ ?_
        refine qc (rpsame_2 W xs ys s b l p q a (by omega) (by omega) (by omega) ‹_› ‹_› (by omega) (by omega) (by omega) ‹_› (by omega)) ?_
        refine qr [] 2 5 [(78, .u a), (77, .agg (mr W xs ys [.i s, .i b, .i l, .i p, .i q])), (76, .f), (75, .u a), (74, .agg (mr W xs ys [.i s, .i b, .i l, .i p, .i q])), (73, .t), (72, .t), (71, .t), (13, .p 2), (5, .t), (4, .f), (2, .p 0), (1, .u a)] [True] ⟨trivial, trivial⟩ ?_
        refine qc (rrpsame_2 W xs ys s b l p q a (by omega) (by omega) (by omega) ‹_› ‹_› (by omega) (by omega) (by omega) ‹_› (by omega)) ?_
        refine qr [(8, .t)] 3 8 [(4, .t), (81, .t), (80, .t), (79, .f), (78, .u a), (77, .agg (mr W xs ys [.i s, .i b, .i l, .i p, .i q])), (76, .f), (75, .u a), (74, .agg (mr W xs ys [.i s, .i b, .i l, .i p, .i q])), (73, .t), (72, .t), (71, .t), (13, .p 2), (5, .t), (4, .f), (2, .p 0), (1, .u a)] [(false == false) = true, True] ⟨rfl, trivial, trivial⟩ ?_
        refine qen ?_
        refine an ?_
        refine xw_ret ?_
        refine an_ret ?_
        exact bs (.t) rfl
       ·
        refine pc (rtto_8 W xs ys s b l p q a (by omega) (by omega) (by omega) ‹_› ‹_› (by omega) (by omega) (by omega) ‹_› ‹_› ‹_› (by omega) (by omega) (by omega) (by omega)) ?_
        have h13 : 1 ≤ (a + 1) / 4294967296 ∧ (a + 1) / 4294967296 ≤ 2 ∧ (a + 1) % 4294967296 < W := by omega
        have h14 : 0 ≤ (ldw xs ys (a + 1)) ∧ (ldw xs ys (a + 1)) ≤ 18446744073709551615 := ldw_ok xs ys (a + 1) ‹_› ‹_›
        obtain ⟨h15, h16, h17, h18⟩ := tw_ok W xs ys a ((s + 1) * 4294967296 + b) (((ldw xs ys a / 4294967296) % 16777216) + 2) (by omega) (by omega) ‹_› ‹_› (by omega) (by omega) (by omega) (by omega)
        have h19 : (ldw (tX xs ys a ((s + 1) * 4294967296 + b) (((ldw xs ys a / 4294967296) % 16777216) + 2)) (tY xs ys a ((s + 1) * 4294967296 + b) (((ldw xs ys a / 4294967296) % 16777216) + 2)) a) = (ldw xs ys a) := (rs_new2 (s := s) (show (xs.length : Int) = W by omega) (show (ys.length : Int) = W by omega) (show (((ldw xs ys a / 4294967296) % 16777216) + 2) = (ldw xs ys a / 4294967296) % 16777216 + 2 from rfl) (by omega) (show 1 ≤ ((s + 1) * 4294967296 + b) / 4294967296 ∧ ((s + 1) * 4294967296 + b) / 4294967296 ≤ 2 ∧ ((s + 1) * 4294967296 + b) % 4294967296 + (((ldw xs ys a / 4294967296) % 16777216) + 2) ≤ W by omega) (by omega) (by omega) (by omega) (by omega) (nP_eq (i := i1) (by omega) (by omega))).1
        have h20 : (ldw (tX xs ys a ((s + 1) * 4294967296 + b) (((ldw xs ys a / 4294967296) % 16777216) + 2)) (tY xs ys a ((s + 1) * 4294967296 + b) (((ldw xs ys a / 4294967296) % 16777216) + 2)) (a + 1)) = ((s + 1) * 4294967296 + b) := (rs_new2 (s := s) (show (xs.length : Int) = W by omega) (show (ys.length : Int) = W by omega) (show (((ldw xs ys a / 4294967296) % 16777216) + 2) = (ldw xs ys a / 4294967296) % 16777216 + 2 from rfl) (by omega) (show 1 ≤ ((s + 1) * 4294967296 + b) / 4294967296 ∧ ((s + 1) * 4294967296 + b) / 4294967296 ≤ 2 ∧ ((s + 1) * 4294967296 + b) % 4294967296 + (((ldw xs ys a / 4294967296) % 16777216) + 2) ≤ W by omega) (by omega) (by omega) (by omega) (by omega) (nP_eq (i := i1) (by omega) (by omega))).2.1
        have h21 : (ldw (tX xs ys a ((s + 1) * 4294967296 + b) (((ldw xs ys a / 4294967296) % 16777216) + 2)) (tY xs ys a ((s + 1) * 4294967296 + b) (((ldw xs ys a / 4294967296) % 16777216) + 2)) (ldw (tX xs ys a ((s + 1) * 4294967296 + b) (((ldw xs ys a / 4294967296) % 16777216) + 2)) (tY xs ys a ((s + 1) * 4294967296 + b) (((ldw xs ys a / 4294967296) % 16777216) + 2)) (a + 1))) = (ldw xs ys a) := (rs_new2 (s := s) (show (xs.length : Int) = W by omega) (show (ys.length : Int) = W by omega) (show (((ldw xs ys a / 4294967296) % 16777216) + 2) = (ldw xs ys a / 4294967296) % 16777216 + 2 from rfl) (by omega) (show 1 ≤ ((s + 1) * 4294967296 + b) / 4294967296 ∧ ((s + 1) * 4294967296 + b) / 4294967296 ≤ 2 ∧ ((s + 1) * 4294967296 + b) % 4294967296 + (((ldw xs ys a / 4294967296) % 16777216) + 2) ≤ W by omega) (by omega) (by omega) (by omega) (by omega) (nP_eq (i := i1) (by omega) (by omega))).2.2.1
        have h22 : (oErr W (tX xs ys a ((s + 1) * 4294967296 + b) (((ldw xs ys a / 4294967296) % 16777216) + 2)) (tY xs ys a ((s + 1) * 4294967296 + b) (((ldw xs ys a / 4294967296) % 16777216) + 2)) a) = 0 := (rs_new2 (s := s) (show (xs.length : Int) = W by omega) (show (ys.length : Int) = W by omega) (show (((ldw xs ys a / 4294967296) % 16777216) + 2) = (ldw xs ys a / 4294967296) % 16777216 + 2 from rfl) (by omega) (show 1 ≤ ((s + 1) * 4294967296 + b) / 4294967296 ∧ ((s + 1) * 4294967296 + b) / 4294967296 ≤ 2 ∧ ((s + 1) * 4294967296 + b) % 4294967296 + (((ldw xs ys a / 4294967296) % 16777216) + 2) ≤ W by omega) (by omega) (by omega) (by omega) (by omega) (nP_eq (i := i1) (by omega) (by omega))).2.2.2.1
        have h23 : (oErr W (tX xs ys a ((s + 1) * 4294967296 + b) (((ldw xs ys a / 4294967296) % 16777216) + 2)) (tY xs ys a ((s + 1) * 4294967296 + b) (((ldw xs ys a / 4294967296) % 16777216) + 2)) (ldw (tX xs ys a ((s + 1) * 4294967296 + b) (((ldw xs ys a / 4294967296) % 16777216) + 2)) (tY xs ys a ((s + 1) * 4294967296 + b) (((ldw xs ys a / 4294967296) % 16777216) + 2)) (a + 1))) = 0 := (rs_new2 (s := s) (show (xs.length : Int) = W by omega) (show (ys.length : Int) = W by omega) (show (((ldw xs ys a / 4294967296) % 16777216) + 2) = (ldw xs ys a / 4294967296) % 16777216 + 2 from rfl) (by omega) (show 1 ≤ ((s + 1) * 4294967296 + b) / 4294967296 ∧ ((s + 1) * 4294967296 + b) / 4294967296 ≤ 2 ∧ ((s + 1) * 4294967296 + b) % 4294967296 + (((ldw xs ys a / 4294967296) % 16777216) + 2) ≤ W by omega) (by omega) (by omega) (by omega) (by omega) (nP_eq (i := i1) (by omega) (by omega))).2.2.2.2.1
        have h24 : (aF W (tX xs ys a ((s + 1) * 4294967296 + b) (((ldw xs ys a / 4294967296) % 16777216) + 2)) (tY xs ys a ((s + 1) * 4294967296 + b) (((ldw xs ys a / 4294967296) % 16777216) + 2)) s a (ldw (tX xs ys a ((s + 1) * 4294967296 + b) (((ldw xs ys a / 4294967296) % 16777216) + 2)) (tY xs ys a ((s + 1) * 4294967296 + b) (((ldw xs ys a / 4294967296) % 16777216) + 2)) (a + 1)) (((ldw (tX xs ys a ((s + 1) * 4294967296 + b) (((ldw xs ys a / 4294967296) % 16777216) + 2)) (tY xs ys a ((s + 1) * 4294967296 + b) (((ldw xs ys a / 4294967296) % 16777216) + 2)) a) / 4294967296) % 16777216) ((ldw (tX xs ys a ((s + 1) * 4294967296 + b) (((ldw xs ys a / 4294967296) % 16777216) + 2)) (tY xs ys a ((s + 1) * 4294967296 + b) (((ldw xs ys a / 4294967296) % 16777216) + 2)) a) % 4294967296) (((ldw (tX xs ys a ((s + 1) * 4294967296 + b) (((ldw xs ys a / 4294967296) % 16777216) + 2)) (tY xs ys a ((s + 1) * 4294967296 + b) (((ldw xs ys a / 4294967296) % 16777216) + 2)) a) / 4294967296) % 16777216)) = 1 := (rs_new2 (s := s) (show (xs.length : Int) = W by omega) (show (ys.length : Int) = W by omega) (show (((ldw xs ys a / 4294967296) % 16777216) + 2) = (ldw xs ys a / 4294967296) % 16777216 + 2 from rfl) (by omega) (show 1 ≤ ((s + 1) * 4294967296 + b) / 4294967296 ∧ ((s + 1) * 4294967296 + b) / 4294967296 ≤ 2 ∧ ((s + 1) * 4294967296 + b) % 4294967296 + (((ldw xs ys a / 4294967296) % 16777216) + 2) ≤ W by omega) (by omega) (by omega) (by omega) (by omega) (nP_eq (i := i1) (by omega) (by omega))).2.2.2.2.2
        refine rk [] 8 3 ⟨[(15, .i 0), (13, .p 2), (5, .t), (4, .f), (2, .p 0), (1, .u a)], [(2, .cells (mr W (tX xs ys a ((s + 1) * 4294967296 + b) ((hL xs ys a) + 2)) (tY xs ys a ((s + 1) * 4294967296 + b) ((hL xs ys a) + 2)) [.i s, .i (b + ((hL xs ys a) + 2)), .i l, .i p, .i q]) 31), (0, .cells (mr W xs ys [.i s, .i b, .i l, .i p, .i q]) 31)], 3⟩ [True] ⟨trivial, trivial⟩ ?_
        refine en ?_
        refine an ?_
        refine xw_seq ?_
        refine rg [(1, .f)] 2 ⟨[(71, .f), (13, .p 2), (5, .t), (4, .f), (2, .p 0), (1, .u a)], [(2, .cells (mr W (tX xs ys a ((s + 1) * 4294967296 + b) ((hL xs ys a) + 2)) (tY xs ys a ((s + 1) * 4294967296 + b) ((hL xs ys a) + 2)) [.i s, .i (b + ((hL xs ys a) + 2)), .i l, .i p, .i q]) 31), (0, .cells (mr W xs ys [.i s, .i b, .i l, .i p, .i q]) 31)], 3⟩ [(0 != 0) = false] ⟨bne_eq_false_iff_eq.2 (by omega), trivial⟩ ?_
        refine cf ?_
        refine xw_skip ?_
        refine an ?_
        refine xw_seq ?_
        refine reg ?_
        refine rk [] 4 0 ⟨[(85, .u a), (84, .agg (mr W (tX xs ys a ((s + 1) * 4294967296 + b) ((hL xs ys a) + 2)) (tY xs ys a ((s + 1) * 4294967296 + b) ((hL xs ys a) + 2)) [.i s, .i (b + ((hL xs ys a) + 2)), .i l, .i p, .i q])), (83, .t), (4, .f), (2, .p 0), (1, .u a)], [(0, .cells (mr W xs ys [.i s, .i b, .i l, .i p, .i q]) 31)], 3⟩ [True] ⟨trivial, trivial⟩ ?_
        by_cases h25 : a = 0 ∨ (1 ≤ a / 4294967296 ∧ a / 4294967296 ≤ 2 ∧ a / 4294967296 - 1 = s ∧ (oErr W (tX xs ys a ((s + 1) * 4294967296 + b) (((ldw xs ys a / 4294967296) % 16777216) + 2)) (tY xs ys a ((s + 1) * 4294967296 + b) (((ldw xs ys a / 4294967296) % 16777216) + 2)) a) = 0 ∧ (ldw (tX xs ys a ((s + 1) * 4294967296 + b) (((ldw xs ys a / 4294967296) % 16777216) + 2)) (tY xs ys a ((s + 1) * 4294967296 + b) (((ldw xs ys a / 4294967296) % 16777216) + 2)) a / 72057594037927936) ≠ 255) ∨ ((oErr W (tX xs ys a ((s + 1) * 4294967296 + b) (((ldw xs ys a / 4294967296) % 16777216) + 2)) (tY xs ys a ((s + 1) * 4294967296 + b) (((ldw xs ys a / 4294967296) % 16777216) + 2)) a) = 0 ∧ (ldw (tX xs ys a ((s + 1) * 4294967296 + b) (((ldw xs ys a / 4294967296) % 16777216) + 2)) (tY xs ys a ((s + 1) * 4294967296 + b) (((ldw xs ys a / 4294967296) % 16777216) + 2)) a / 72057594037927936) ≠ 255 ∧ 1 ≤ (ldw (tX xs ys a ((s + 1) * 4294967296 + b) (((ldw xs ys a / 4294967296) % 16777216) + 2)) (tY xs ys a ((s + 1) * 4294967296 + b) (((ldw xs ys a / 4294967296) % 16777216) + 2)) (a + 1)) / 4294967296 ∧ (ldw (tX xs ys a ((s + 1) * 4294967296 + b) (((ldw xs ys a / 4294967296) % 16777216) + 2)) (tY xs ys a ((s + 1) * 4294967296 + b) (((ldw xs ys a / 4294967296) % 16777216) + 2)) (a + 1)) / 4294967296 ≤ 2 ∧ (ldw (tX xs ys a ((s + 1) * 4294967296 + b) (((ldw xs ys a / 4294967296) % 16777216) + 2)) (tY xs ys a ((s + 1) * 4294967296 + b) (((ldw xs ys a / 4294967296) % 16777216) + 2)) (a + 1)) / 4294967296 - 1 = s ∧ (oErr W (tX xs ys a ((s + 1) * 4294967296 + b) (((ldw xs ys a / 4294967296) % 16777216) + 2)) (tY xs ys a ((s + 1) * 4294967296 + b) (((ldw xs ys a / 4294967296) % 16777216) + 2)) (ldw (tX xs ys a ((s + 1) * 4294967296 + b) (((ldw xs ys a / 4294967296) % 16777216) + 2)) (tY xs ys a ((s + 1) * 4294967296 + b) (((ldw xs ys a / 4294967296) % 16777216) + 2)) (a + 1))) = 0 ∧ (ldw (tX xs ys a ((s + 1) * 4294967296 + b) (((ldw xs ys a / 4294967296) % 16777216) + 2)) (tY xs ys a ((s + 1) * 4294967296 + b) (((ldw xs ys a / 4294967296) % 16777216) + 2)) a / 72057594037927936) = (ldw (tX xs ys a ((s + 1) * 4294967296 + b) (((ldw xs ys a / 4294967296) % 16777216) + 2)) (tY xs ys a ((s + 1) * 4294967296 + b) (((ldw xs ys a / 4294967296) % 16777216) + 2)) (ldw (tX xs ys a ((s + 1) * 4294967296 + b) (((ldw xs ys a / 4294967296) % 16777216) + 2)) (tY xs ys a ((s + 1) * 4294967296 + b) (((ldw xs ys a / 4294967296) % 16777216) + 2)) (a + 1)) / 72057594037927936) ∧ ((ldw (tX xs ys a ((s + 1) * 4294967296 + b) (((ldw xs ys a / 4294967296) % 16777216) + 2)) (tY xs ys a ((s + 1) * 4294967296 + b) (((ldw xs ys a / 4294967296) % 16777216) + 2)) a / 4294967296) % 16777216) = ((ldw (tX xs ys a ((s + 1) * 4294967296 + b) (((ldw xs ys a / 4294967296) % 16777216) + 2)) (tY xs ys a ((s + 1) * 4294967296 + b) (((ldw xs ys a / 4294967296) % 16777216) + 2)) (ldw (tX xs ys a ((s + 1) * 4294967296 + b) (((ldw xs ys a / 4294967296) % 16777216) + 2)) (tY xs ys a ((s + 1) * 4294967296 + b) (((ldw xs ys a / 4294967296) % 16777216) + 2)) (a + 1)) / 4294967296) % 16777216) ∧ (ldw (tX xs ys a ((s + 1) * 4294967296 + b) (((ldw xs ys a / 4294967296) % 16777216) + 2)) (tY xs ys a ((s + 1) * 4294967296 + b) (((ldw xs ys a / 4294967296) % 16777216) + 2)) a % 4294967296) = (ldw (tX xs ys a ((s + 1) * 4294967296 + b) (((ldw xs ys a / 4294967296) % 16777216) + 2)) (tY xs ys a ((s + 1) * 4294967296 + b) (((ldw xs ys a / 4294967296) % 16777216) + 2)) (ldw (tX xs ys a ((s + 1) * 4294967296 + b) (((ldw xs ys a / 4294967296) % 16777216) + 2)) (tY xs ys a ((s + 1) * 4294967296 + b) (((ldw xs ys a / 4294967296) % 16777216) + 2)) (a + 1)) % 4294967296) ∧ (aF W (tX xs ys a ((s + 1) * 4294967296 + b) (((ldw xs ys a / 4294967296) % 16777216) + 2)) (tY xs ys a ((s + 1) * 4294967296 + b) (((ldw xs ys a / 4294967296) % 16777216) + 2)) s a (ldw (tX xs ys a ((s + 1) * 4294967296 + b) (((ldw xs ys a / 4294967296) % 16777216) + 2)) (tY xs ys a ((s + 1) * 4294967296 + b) (((ldw xs ys a / 4294967296) % 16777216) + 2)) (a + 1)) ((ldw (tX xs ys a ((s + 1) * 4294967296 + b) (((ldw xs ys a / 4294967296) % 16777216) + 2)) (tY xs ys a ((s + 1) * 4294967296 + b) (((ldw xs ys a / 4294967296) % 16777216) + 2)) a / 4294967296) % 16777216) (ldw (tX xs ys a ((s + 1) * 4294967296 + b) (((ldw xs ys a / 4294967296) % 16777216) + 2)) (tY xs ys a ((s + 1) * 4294967296 + b) (((ldw xs ys a / 4294967296) % 16777216) + 2)) a % 4294967296) ((ldw (tX xs ys a ((s + 1) * 4294967296 + b) (((ldw xs ys a / 4294967296) % 16777216) + 2)) (tY xs ys a ((s + 1) * 4294967296 + b) (((ldw xs ys a / 4294967296) % 16777216) + 2)) a / 4294967296) % 16777216)) = 1)
        ·
         refine pc (rpsame_1 W (tX xs ys a ((s + 1) * 4294967296 + b) (((ldw xs ys a / 4294967296) % 16777216) + 2)) (tY xs ys a ((s + 1) * 4294967296 + b) (((ldw xs ys a / 4294967296) % 16777216) + 2)) s (b + (((ldw xs ys a / 4294967296) % 16777216) + 2)) l p q a (by omega) ‹_› ‹_› ‹_› ‹_› (by omega) (by omega) (by omega) ‹_› (by omega)) ?_
         refine rk [] 4 5 ⟨[(90, .u a), (89, .agg (mr W xs ys [.i s, .i b, .i l, .i p, .i q])), (88, .t), (4, .f)], [], 3⟩ [True, True] ⟨trivial, trivial, trivial⟩ ?_
         refine pc (rpsame_2 W xs ys s b l p q a (by omega) (by omega) (by omega) ‹_› ‹_› (by omega) (by omega) (by omega) ‹_› (by omega)) ?_
         refine rk [] 3 10 ⟨[(4, .t)], [], 3⟩ [True] ⟨trivial, trivial⟩ ?_
         refine en ?_
         refine an ?_
         refine xw_ret ?_
         exact bs (.t) rfl
        ·
         refine pc (rpsame_2 W (tX xs ys a ((s + 1) * 4294967296 + b) (((ldw xs ys a / 4294967296) % 16777216) + 2)) (tY xs ys a ((s + 1) * 4294967296 + b) (((ldw xs ys a / 4294967296) % 16777216) + 2)) s (b + (((ldw xs ys a / 4294967296) % 16777216) + 2)) l p q a (by omega) ‹_› ‹_› ‹_› ‹_› (by omega) (by omega) (by omega) ‹_› (by omega)) ?_
         refine rk [] 8 5 ⟨[(4, .f)], [], 3⟩ [True, True] ⟨trivial, trivial, trivial⟩ ?_
         refine en ?_
         refine an ?_
         refine xw_ret ?_
         exact bk_ret (.f) (.f) (.t) (by kernel_rfl) (by kernel_rfl) (wkd [false = true] (by kernel_rfl) ⟨(by first | exact decide_eq_true (by omega) | exact decide_eq_false (by omega) | (simp; done) | (simp; omega) | simp_all | grind), trivial⟩) rfl
    ·
     refine pc (roat_2 W xs ys a (by omega) (by omega) (by omega) ‹_› ‹_› ‹_› ‹_›) ?_
     have h4 : (oErr W xs ys a) = 2 ∨ (oErr W xs ys a) = 10 := oErr_no W xs ys a (by omega)
     refine rk [] 6 4 ⟨[(8, .i (oErr W xs ys a)), (7, .p 1), (5, .t), (4, .f), (2, .p 0), (1, .u a)], [(1, .cells [.i 0, .i 0, .u 0] 37), (0, .cells (mr W xs ys [.i s, .i b, .i l, .i p, .i q]) 31)], 2⟩ [True] ⟨trivial, trivial⟩ ?_
     refine en ?_
     refine an ?_
     refine xw_seq ?_
     refine rg [] 1 ⟨[(9, .i 0), (8, .i (oErr W xs ys a)), (7, .p 1), (5, .t), (4, .f), (2, .p 0), (1, .u a)], [(1, .cells [.i 0, .i 0, .u 0] 37), (0, .cells (mr W xs ys [.i s, .i b, .i l, .i p, .i q]) 31)], 2⟩ [] trivial ?_
     refine xw_block ?_
     refine xw_unroll 1 ?_
     refine ul_step ?_
     refine xw_seq ?_
     refine rg [(3, .f)] 8 ⟨[(45, .f), (9, .i 0), (8, .i (oErr W xs ys a)), (7, .p 1), (5, .t), (4, .f), (2, .p 0), (1, .u a)], [(1, .cells [.i 0, .i 0, .u 0] 37), (0, .cells (mr W xs ys [.i s, .i b, .i l, .i p, .i q]) 31)], 2⟩ [True, (decide (0 < 0)) = false, True] ⟨trivial, decide_eq_false (by omega), trivial, trivial⟩ ?_
     refine cf ?_
     refine xw_exit ?_
     refine an_exit ?_
     refine agu_exit ?_
     refine ib_same ?_
     refine an ?_
     refine xw_seq ?_
     refine reg ?_
     refine rk [] 2 0 ⟨[(65, .u a), (64, .agg (mr W xs ys [.i s, .i b, .i l, .i p, .i q])), (5, .t), (4, .f), (2, .p 0), (1, .u a)], [(0, .cells (mr W xs ys [.i s, .i b, .i l, .i p, .i q]) 31)], 2⟩ [True] ⟨trivial, trivial⟩ ?_
     refine pc (rtto_2 W xs ys s b l p q a (by omega) (by omega) (by omega) ‹_› ‹_› (by omega) (by omega) (by omega) ‹_› ‹_› ‹_›) ?_
     refine rk [] 8 3 ⟨[(15, .i (oErr W xs ys a)), (13, .p 2), (5, .t), (4, .f), (2, .p 0), (1, .u a)], [(2, .cells (mr W xs ys [.i s, .i b, .i l, .i p, .i q]) 31), (0, .cells (mr W xs ys [.i s, .i b, .i l, .i p, .i q]) 31)], 3⟩ [True] ⟨trivial, trivial⟩ ?_
     refine en ?_
     refine an ?_
     refine xw_seq ?_
     refine rg [(1, .t)] 2 ⟨[(71, .t), (13, .p 2), (5, .t), (4, .f), (2, .p 0), (1, .u a)], [(2, .cells (mr W xs ys [.i s, .i b, .i l, .i p, .i q]) 31), (0, .cells (mr W xs ys [.i s, .i b, .i l, .i p, .i q]) 31)], 3⟩ [((oErr W xs ys a) != 0) = true] ⟨bne_iff_ne.2 (by omega), trivial⟩ ?_
     refine ct ?_
     refine xw_seq ?_
     refine dregk hmix (by kernel_rfl) ?_
     refine qr [] 4 0 [(75, .u a), (74, .agg (mr W xs ys [.i s, .i b, .i l, .i p, .i q])), (73, .t), (72, .t), (71, .t), (13, .p 2), (5, .t), (4, .f), (2, .p 0), (1, .u a)] [True] ⟨trivial, trivial⟩ ?_
     refine qc (rpsame_2 W xs ys s b l p q a (by omega) (by omega) (by omega) ‹_› ‹_› (by omega) (by omega) (by omega) ‹_› (by omega)) ?_
     refine qr [] 2 5 [(78, .u a), (77, .agg (mr W xs ys [.i s, .i b, .i l, .i p, .i q])), (76, .f), (75, .u a), (74, .agg (mr W xs ys [.i s, .i b, .i l, .i p, .i q])), (73, .t), (72, .t), (71, .t), (13, .p 2), (5, .t), (4, .f), (2, .p 0), (1, .u a)] [True] ⟨trivial, trivial⟩ ?_
     refine qc (rrpsame_2 W xs ys s b l p q a (by omega) (by omega) (by omega) ‹_› ‹_› (by omega) (by omega) (by omega) ‹_› (by omega)) ?_
     refine qr [(8, .t)] 3 8 [(4, .t), (81, .t), (80, .t), (79, .f), (78, .u a), (77, .agg (mr W xs ys [.i s, .i b, .i l, .i p, .i q])), (76, .f), (75, .u a), (74, .agg (mr W xs ys [.i s, .i b, .i l, .i p, .i q])), (73, .t), (72, .t), (71, .t), (13, .p 2), (5, .t), (4, .f), (2, .p 0), (1, .u a)] [(false == false) = true, True] ⟨rfl, trivial, trivial⟩ ?_
     refine qen ?_
     refine an ?_
     refine xw_ret ?_
     refine an_ret ?_
     exact bs (.t) rfl
 ·
  refine pc (few13_2 W xs ys s b l p q ‹_› ‹_› ‹_› ‹_› ‹_› ‹_› ‹_›) ?_
  refine rk [] 1 2 ⟨[(6, .f), (5, .t), (4, .f), (2, .p 0), (1, .u a)], [(0, .cells (mr W xs ys [.i s, .i b, .i l, .i p, .i q]) 31)], 1⟩ [] trivial ?_
  refine en ?_
  refine an ?_
  refine xw_seq ?_
  refine rg [] 11 ⟨[(29, .t), (5, .t), (4, .f), (2, .p 0), (1, .u a)], [(0, .cells (mr W xs ys [.i s, .i b, .i l, .i p, .i q]) 31)], 1⟩ [True, True] ⟨trivial, trivial, trivial⟩ ?_
  refine ct ?_
  refine rg [] 2 ⟨[(4, .t), (5, .t), (2, .p 0), (1, .u a)], [(0, .cells (mr W xs ys [.i s, .i b, .i l, .i p, .i q]) 31)], 1⟩ [] trivial ?_
  refine xw_ret ?_
  refine an_ret ?_
  exact bs (.t) rfl

end Go.Proofs.Ytkiaoafmlekndaa.X
