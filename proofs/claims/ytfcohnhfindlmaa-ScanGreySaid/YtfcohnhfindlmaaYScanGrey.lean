/- Contracts of Go functions: what each returns, for every input that its premises name; no memory of the caller is touched. Printed by a program. -/
import Derived.Test.YtfcohnhfindlmaaXh4
namespace Go.Proofs.Ytfcohnhfindlmaa.X
open Go Go.RowKit
set_option linter.unusedVariables false      -- a premise may serve only to tell which way is taken
set_option linter.unusedSimpArgs false
theorem scanGrey (W : Int) (xs : List Int) (ys : List Int) (s : Int) (b : Int) (l : Int) (p : Int) (q : Int) (o : Int) (hp0 : -9223372036854775808 ≤ W ∧ W ≤ 9223372036854775807) (hp1 : U64s xs) (hp2 : U64s ys) (hp3 : -9223372036854775808 ≤ s ∧ s ≤ 9223372036854775807) (hp4 : -9223372036854775808 ≤ b ∧ b ≤ 9223372036854775807) (hp5 : -9223372036854775808 ≤ l ∧ l ≤ 9223372036854775807) (hp6 : -9223372036854775808 ≤ p ∧ p ≤ 9223372036854775807) (hp7 : -9223372036854775808 ≤ q ∧ q ≤ 9223372036854775807) (hp8 : -9223372036854775808 ≤ o ∧ o ≤ 9223372036854775807) : Pub Try.prog 3 [.agg (mr W xs ys [.int .i64 s, .int .i64 b, .int .i64 l, .int .i64 p, .int .i64 q]), .int .i64 o] (fun rv => rv = .bool true) := by
 refine pub_of TT_ok Try.func3 rfl (by decide) (Nat.le_of_ble_eq_true (by kernel_rfl)) (by kernel_rfl) ?_
 refine rg [] 2 ⟨[(4, .f), (2, .p 0), (1, .i o)], [(0, .cells (mr W xs ys [.i s, .i b, .i l, .i p, .i q]) 31)], 1⟩ [] trivial ?_
 refine xw_seq ?_
 refine reg ?_
 refine pc (shown12 ) ?_
 refine rk [] 1 1 ⟨[(5, .t), (4, .f), (2, .p 0), (1, .i o)], [(0, .cells (mr W xs ys [.i s, .i b, .i l, .i p, .i q]) 31)], 1⟩ [] trivial ?_
 refine en ?_
 refine an ?_
 refine xw_seq ?_
 refine reg ?_
 refine rk [] 1 0 ⟨[(12, .agg (mr W xs ys [.i s, .i b, .i l, .i p, .i q])), (5, .t), (4, .f), (2, .p 0), (1, .i o)], [(0, .cells (mr W xs ys [.i s, .i b, .i l, .i p, .i q]) 31)], 1⟩ [True] ⟨trivial, trivial⟩ ?_
 by_cases h0 : 16 ≤ W ∧ W ≤ 4096 ∧ (xs.length : Int) = W ∧ (ys.length : Int) = W ∧ (s = 0 ∨ s = 1) ∧ 0 ≤ b ∧ b ≤ l ∧ l ≤ 4096 ∧ l = W ∧ ((p = 0 ∧ q = 0) ∨ (0 ≤ p ∧ p ≤ q ∧ q ≤ b)) ∧ W ≤ 200
 ·
  refine pc (few12_1 W xs ys s b l p q ‹_› ‹_› ‹_› ‹_› ‹_› ‹_› ‹_›) ?_
  refine rk [] 1 2 ⟨[(6, .t), (5, .t), (4, .f), (2, .p 0), (1, .i o)], [(0, .cells (mr W xs ys [.i s, .i b, .i l, .i p, .i q]) 31)], 1⟩ [] trivial ?_
  refine en ?_
  refine an ?_
  refine xw_seq ?_
  refine rg [] 2 ⟨[(15, .f), (5, .t), (4, .f), (2, .p 0), (1, .i o)], [(0, .cells (mr W xs ys [.i s, .i b, .i l, .i p, .i q]) 31)], 1⟩ [] trivial ?_
  refine cf ?_
  refine xw_skip ?_
  refine an ?_
  refine xw_seq ?_
  refine reg ?_
  refine rk [] 2 0 ⟨[(19, .i o), (18, .agg (mr W xs ys [.i s, .i b, .i l, .i p, .i q])), (5, .t), (4, .f), (2, .p 0), (1, .i o)], [(0, .cells (mr W xs ys [.i s, .i b, .i l, .i p, .i q]) 31)], 1⟩ [True] ⟨trivial, trivial⟩ ?_
  refine pcall (args := [.agg (mr W xs ys [.i s, .i b, .i l, .i p, .i q]), .i o]) (args' := [.agg (mr W xs ys [.i s, .i b, .i l, .i p, .i q]), .i o]) (d := (some 20)) (by kernel_rfl) (sone W xs ys s b l p q o (by omega) (by omega) (by omega) ‹_› ‹_› (by omega) (by omega) (by omega) ‹_›) [(W : Int) = W, (false = true → false = true), ((m64 xs) : List SV) = (m64 xs), (false = true → false = true), ((m64 ys) : List SV) = (m64 ys), (s : Int) = s, (b : Int) = b, (l : Int) = l, (p : Int) = p, (q : Int) = q, (o : Int) = o] (by kernel_rfl) ⟨rfl, id, rfl, id, rfl, rfl, rfl, rfl, rfl, rfl, rfl, trivial⟩ (by kernel_rfl) ?_
  rintro _ (⟨h1, rfl⟩ | ⟨h1, h2, rfl⟩ | ⟨X11, Y12, B13, h4, h5, h6, h7, h8, h9, h10, h11, h12, h13, rfl⟩ | ⟨X11, Y12, B13, E14, h5, h6, h7, h8, h9, h10, h11, h12, rfl⟩)
  ·
   refine rk [] 8 3 ⟨[(9, .i 1), (8, .i o), (7, .p 1), (5, .t), (4, .f), (2, .p 0), (1, .i o)], [(1, .cells (mr W xs ys [.i s, .i b, .i l, .i p, .i q]) 31), (0, .cells (mr W xs ys [.i s, .i b, .i l, .i p, .i q]) 31)], 2⟩ [True] ⟨trivial, trivial⟩ ?_
   refine en ?_
   refine an ?_
   refine xw_seq ?_
   refine reg ?_
   refine rk [] 2 0 ⟨[(25, .i o), (24, .agg (mr W xs ys [.i s, .i b, .i l, .i p, .i q])), (9, .i 1), (8, .i o), (7, .p 1), (5, .t), (4, .f), (2, .p 0)], [(1, .cells (mr W xs ys [.i s, .i b, .i l, .i p, .i q]) 31), (0, .cells (mr W xs ys [.i s, .i b, .i l, .i p, .i q]) 31)], 2⟩ [True] ⟨trivial, trivial⟩ ?_
   refine pc (sgrey W xs ys s b l p q o (by omega) (by omega) (by omega) ‹_› ‹_› (by omega) (by omega) (by omega) ‹_›) ?_
   have h2 : o ≠ b ∨ (gry W xs ys s b o) = 0 := by by_cases e : o = b; exact Or.inr (gry_end (by omega) e); exact Or.inl e
   have h3 : (gry W xs ys s b o) ≤ 4096 := gry_le W xs ys s b o (by omega)
   refine rk [] 1 3 ⟨[(10, .i (gry W xs ys s b o)), (9, .i 1), (8, .i o), (7, .p 1), (5, .t), (4, .f), (2, .p 0)], [(1, .cells (mr W xs ys [.i s, .i b, .i l, .i p, .i q]) 31), (0, .cells (mr W xs ys [.i s, .i b, .i l, .i p, .i q]) 31)], 2⟩ [] trivial ?_
   refine en ?_
   refine an ?_
   refine xw_seq ?_
   refine rg [(1, .t)] 15 ⟨[(41, .t), (10, .i (gry W xs ys s b o)), (9, .i 1), (8, .i o), (7, .p 1), (5, .t), (4, .f)], [(1, .cells (mr W xs ys [.i s, .i b, .i l, .i p, .i q]) 31)], 2⟩ [(1 != 0) = true, True, True] ⟨bne_iff_ne.2 (by omega), trivial, trivial, trivial⟩ ?_
   refine ct ?_
   refine rg [(3, .t)] 10 ⟨[(4, .t), (10, .i (gry W xs ys s b o)), (8, .i o), (7, .p 1), (5, .t)], [(1, .cells (mr W xs ys [.i s, .i b, .i l, .i p, .i q]) 31)], 2⟩ [(1 != 9) = true, True, True] ⟨bne_iff_ne.2 (by omega), trivial, trivial, trivial⟩ ?_
   refine xw_ret ?_
   refine an_ret ?_
   exact bs (.t) rfl
  ·
   refine rk [] 8 3 ⟨[(9, .i 9), (8, .i o), (7, .p 1), (5, .t), (4, .f), (2, .p 0), (1, .i o)], [(1, .cells (mr W xs ys [.i s, .i b, .i l, .i p, .i q]) 31), (0, .cells (mr W xs ys [.i s, .i b, .i l, .i p, .i q]) 31)], 2⟩ [True] ⟨trivial, trivial⟩ ?_
   refine en ?_
   refine an ?_
   refine xw_seq ?_
   refine reg ?_
   refine rk [] 2 0 ⟨[(25, .i o), (24, .agg (mr W xs ys [.i s, .i b, .i l, .i p, .i q])), (9, .i 9), (8, .i o), (7, .p 1), (5, .t), (4, .f), (2, .p 0)], [(1, .cells (mr W xs ys [.i s, .i b, .i l, .i p, .i q]) 31), (0, .cells (mr W xs ys [.i s, .i b, .i l, .i p, .i q]) 31)], 2⟩ [True] ⟨trivial, trivial⟩ ?_
   refine pc (sgrey W xs ys s b l p q o (by omega) (by omega) (by omega) ‹_› ‹_› (by omega) (by omega) (by omega) ‹_›) ?_
   have h3 : o ≠ b ∨ (gry W xs ys s b o) = 0 := by by_cases e : o = b; exact Or.inr (gry_end (by omega) e); exact Or.inl e
   have h4 : (gry W xs ys s b o) ≤ 4096 := gry_le W xs ys s b o (by omega)
   refine rk [] 1 3 ⟨[(10, .i (gry W xs ys s b o)), (9, .i 9), (8, .i o), (7, .p 1), (5, .t), (4, .f), (2, .p 0)], [(1, .cells (mr W xs ys [.i s, .i b, .i l, .i p, .i q]) 31), (0, .cells (mr W xs ys [.i s, .i b, .i l, .i p, .i q]) 31)], 2⟩ [] trivial ?_
   refine en ?_
   refine an ?_
   refine xw_seq ?_
   refine rg [(1, .t)] 15 ⟨[(41, .t), (10, .i (gry W xs ys s b o)), (9, .i 9), (8, .i o), (7, .p 1), (5, .t), (4, .f)], [(1, .cells (mr W xs ys [.i s, .i b, .i l, .i p, .i q]) 31)], 2⟩ [(9 != 0) = true, True, True] ⟨bne_iff_ne.2 (by omega), trivial, trivial, trivial⟩ ?_
   refine ct ?_
   refine rg [(3, .f), (6, .t)] 10 ⟨[(4, .t), (10, .i (gry W xs ys s b o)), (8, .i o), (7, .p 1), (5, .t)], [(1, .cells (mr W xs ys [.i s, .i b, .i l, .i p, .i q]) 31)], 2⟩ [(9 != 9) = false, ((gry W xs ys s b o) == 0) = true, True, True] ⟨bne_eq_false_iff_eq.2 (by omega), beq_iff_eq.2 (by omega), trivial, trivial, trivial⟩ ?_
   refine xw_ret ?_
   refine an_ret ?_
   exact bs (.t) rfl
  ·
   refine rk [] 8 3 ⟨[(9, .i 0), (8, .i (o + (hN (hT xs ys ((s + 1) * 4294967296 + o)) (hL xs ys ((s + 1) * 4294967296 + o))))), (7, .p 1), (5, .t), (4, .f), (2, .p 0), (1, .i o)], [(1, .cells (mr W X11 Y12 [.i s, .i B13, .i l, .i p, .i q]) 31), (0, .cells (mr W xs ys [.i s, .i b, .i l, .i p, .i q]) 31)], 2⟩ [True] ⟨trivial, trivial⟩ ?_
   refine en ?_
   refine an ?_
   refine xw_seq ?_
   refine reg ?_
   refine rk [] 2 0 ⟨[(25, .i o), (24, .agg (mr W xs ys [.i s, .i b, .i l, .i p, .i q])), (9, .i 0), (8, .i (o + (hN (hT xs ys ((s + 1) * 4294967296 + o)) (hL xs ys ((s + 1) * 4294967296 + o))))), (7, .p 1), (5, .t), (4, .f), (2, .p 0)], [(1, .cells (mr W X11 Y12 [.i s, .i B13, .i l, .i p, .i q]) 31), (0, .cells (mr W xs ys [.i s, .i b, .i l, .i p, .i q]) 31)], 2⟩ [True] ⟨trivial, trivial⟩ ?_
   refine pc (sgrey W xs ys s b l p q o (by omega) (by omega) (by omega) ‹_› ‹_› (by omega) (by omega) (by omega) ‹_›) ?_
   have h14 : o ≠ b ∨ (gry W xs ys s b o) = 0 := by by_cases e : o = b; exact Or.inr (gry_end (by omega) e); exact Or.inl e
   have h15 : (gry W xs ys s b o) ≤ 4096 := gry_le W xs ys s b o (by omega)
   refine rk [] 1 3 ⟨[(10, .i (gry W xs ys s b o)), (9, .i 0), (8, .i (o + (hN (hT xs ys ((s + 1) * 4294967296 + o)) (hL xs ys ((s + 1) * 4294967296 + o))))), (7, .p 1), (5, .t), (4, .f), (2, .p 0)], [(1, .cells (mr W X11 Y12 [.i s, .i B13, .i l, .i p, .i q]) 31), (0, .cells (mr W xs ys [.i s, .i b, .i l, .i p, .i q]) 31)], 2⟩ [] trivial ?_
   refine en ?_
   refine an ?_
   refine xw_seq ?_
   refine xw_seq ?_
   refine reg ?_
   refine rk [(1, .f), (4, .bool (decide ((gry W xs ys s b o) < 0)))] 7 0 ⟨[(33, .bool (decide ((gry W xs ys s b o) < 0))), (10, .i (gry W xs ys s b o)), (9, .i 0), (8, .i (o + (hN (hT xs ys ((s + 1) * 4294967296 + o)) (hL xs ys ((s + 1) * 4294967296 + o))))), (7, .p 1), (5, .t), (4, .f), (2, .p 0)], [(1, .cells (mr W X11 Y12 [.i s, .i B13, .i l, .i p, .i q]) 31), (0, .cells (mr W xs ys [.i s, .i b, .i l, .i p, .i q]) 31)], 2⟩ [(0 != 0) = false, (decide ((gry W xs ys s b o) < 0)) = (decide ((gry W xs ys s b o) < 0)), True] ⟨bne_eq_false_iff_eq.2 (by omega), rfl, trivial, trivial⟩ ?_
   refine splitr 33 (x := (decide ((gry W xs ys s b o) < 0))) (by kernel_rfl) (fun h16 => ?_) (fun h16 => ?_)
   ·
    replace h16 : (gry W xs ys s b o) < 0 := of_decide_eq_true h16
    refine rk [] 8 7 ⟨[(41, .t), (10, .i (gry W xs ys s b o)), (9, .i 0), (8, .i (o + (hN (hT xs ys ((s + 1) * 4294967296 + o)) (hL xs ys ((s + 1) * 4294967296 + o))))), (7, .p 1), (5, .t), (4, .f)], [(1, .cells (mr W X11 Y12 [.i s, .i B13, .i l, .i p, .i q]) 31)], 2⟩ [True] ⟨trivial, trivial⟩ ?_
    refine en ?_
    refine an ?_
    refine ct ?_
    refine rg [(3, .t)] 10 ⟨[(4, .t), (10, .i (gry W xs ys s b o)), (8, .i (o + (hN (hT xs ys ((s + 1) * 4294967296 + o)) (hL xs ys ((s + 1) * 4294967296 + o))))), (7, .p 1), (5, .t)], [(1, .cells (mr W X11 Y12 [.i s, .i B13, .i l, .i p, .i q]) 31)], 2⟩ [(0 != 9) = true, True, True] ⟨bne_iff_ne.2 (by omega), trivial, trivial, trivial⟩ ?_
    refine xw_ret ?_
    refine an_ret ?_
    exact bs (.t) rfl
   ·
    replace h16 : ¬ ((gry W xs ys s b o) < 0) := of_decide_eq_false h16
    refine rk [(13, .bool (B13 != b))] 8 7 ⟨[(41, .bool (B13 != b)), (10, .i (gry W xs ys s b o)), (9, .i 0), (8, .i (o + (hN (hT xs ys ((s + 1) * 4294967296 + o)) (hL xs ys ((s + 1) * 4294967296 + o))))), (7, .p 1), (5, .t), (4, .f)], [(1, .cells (mr W X11 Y12 [.i s, .i B13, .i l, .i p, .i q]) 31)], 2⟩ [True, True, (B13 != b) = (B13 != b), True] ⟨trivial, trivial, rfl, trivial, trivial⟩ ?_
    refine en ?_
    refine an ?_
    refine xw_cond (b := (B13 != b)) (by kernel_rfl) (fun h17 => ?_) (fun h17 => ?_)
    ·
     replace h17 : B13 ≠ b := bne_iff_ne.1 h17
     refine rg [(3, .t)] 10 ⟨[(4, .t), (10, .i (gry W xs ys s b o)), (8, .i (o + (hN (hT xs ys ((s + 1) * 4294967296 + o)) (hL xs ys ((s + 1) * 4294967296 + o))))), (7, .p 1), (5, .t)], [(1, .cells (mr W X11 Y12 [.i s, .i B13, .i l, .i p, .i q]) 31)], 2⟩ [(0 != 9) = true, True, True] ⟨bne_iff_ne.2 (by omega), trivial, trivial, trivial⟩ ?_
     refine xw_ret ?_
     refine an_ret ?_
     exact bs (.t) rfl
    ·
     replace h17 : B13 = b := bne_eq_false_iff_eq.1 h17
     refine xw_skip ?_
     refine an ?_
     refine xw_seq ?_
     refine reg ?_
     refine rk [] 4 0 ⟨[(54, .i (o + (hN (hT xs ys ((s + 1) * 4294967296 + o)) (hL xs ys ((s + 1) * 4294967296 + o))))), (53, .agg (mr W X11 Y12 [.i s, .i B13, .i l, .i p, .i q])), (52, .t), (10, .i (gry W xs ys s b o)), (4, .f)], [], 2⟩ [True] ⟨trivial, trivial⟩ ?_
     refine pc (sgrey W X11 Y12 s B13 l p q (o + (hN (ldw xs ys ((s + 1) * 4294967296 + o) / 72057594037927936) ((ldw xs ys ((s + 1) * 4294967296 + o) / 4294967296) % 16777216))) (by omega) ‹_› ‹_› ‹_› ‹_› (by omega) (by omega) (by omega) (by omega)) ?_
     have h18 : b ≠ B13 ∨ (gry W X11 Y12 s b (o + (hN (ldw xs ys ((s + 1) * 4294967296 + o) / 72057594037927936) ((ldw xs ys ((s + 1) * 4294967296 + o) / 4294967296) % 16777216)))) = (gry W X11 Y12 s B13 (o + (hN (ldw xs ys ((s + 1) * 4294967296 + o) / 72057594037927936) ((ldw xs ys ((s + 1) * 4294967296 + o) / 4294967296) % 16777216)))) := gry_at W X11 Y12 s b B13 (o + (hN (ldw xs ys ((s + 1) * 4294967296 + o) / 72057594037927936) ((ldw xs ys ((s + 1) * 4294967296 + o) / 4294967296) % 16777216)))
     refine rk [(6, .i ((gry W xs ys s b o) - 1)), (7, .t)] 5 5 ⟨[(4, .t)], [], 2⟩ [IntKind.i64.wrap ((gry W xs ys s b o) - 1) = ((gry W xs ys s b o) - 1), ((gry W X11 Y12 s B13 (o + (hN (ldw xs ys ((s + 1) * 4294967296 + o) / 72057594037927936) ((ldw xs ys ((s + 1) * 4294967296 + o) / 4294967296) % 16777216)))) == ((gry W xs ys s b o) - 1)) = true, True] ⟨i64_eq (by omega) (by omega), beq_iff_eq.2 (by omega), trivial, trivial⟩ ?_
     refine en ?_
     refine an ?_
     refine xw_ret ?_
     exact bs (.t) rfl
  ·
   refine rk [] 8 3 ⟨[(9, .i E14), (8, .i o), (7, .p 1), (5, .t), (4, .f), (2, .p 0), (1, .i o)], [(1, .cells (mr W X11 Y12 [.i s, .i B13, .i l, .i p, .i q]) 31), (0, .cells (mr W xs ys [.i s, .i b, .i l, .i p, .i q]) 31)], 2⟩ [True] ⟨trivial, trivial⟩ ?_
   refine en ?_
   refine an ?_
   refine xw_seq ?_
   refine reg ?_
   refine rk [] 2 0 ⟨[(25, .i o), (24, .agg (mr W xs ys [.i s, .i b, .i l, .i p, .i q])), (9, .i E14), (8, .i o), (7, .p 1), (5, .t), (4, .f), (2, .p 0)], [(1, .cells (mr W X11 Y12 [.i s, .i B13, .i l, .i p, .i q]) 31), (0, .cells (mr W xs ys [.i s, .i b, .i l, .i p, .i q]) 31)], 2⟩ [True] ⟨trivial, trivial⟩ ?_
   refine pc (sgrey W xs ys s b l p q o (by omega) (by omega) (by omega) ‹_› ‹_› (by omega) (by omega) (by omega) ‹_›) ?_
   have h13 : o ≠ b ∨ (gry W xs ys s b o) = 0 := by by_cases e : o = b; exact Or.inr (gry_end (by omega) e); exact Or.inl e
   have h14 : (gry W xs ys s b o) ≤ 4096 := gry_le W xs ys s b o (by omega)
   refine rk [] 1 3 ⟨[(10, .i (gry W xs ys s b o)), (9, .i E14), (8, .i o), (7, .p 1), (5, .t), (4, .f), (2, .p 0)], [(1, .cells (mr W X11 Y12 [.i s, .i B13, .i l, .i p, .i q]) 31), (0, .cells (mr W xs ys [.i s, .i b, .i l, .i p, .i q]) 31)], 2⟩ [] trivial ?_
   refine en ?_
   refine an ?_
   refine xw_seq ?_
   refine rg [(1, .t)] 15 ⟨[(41, .t), (10, .i (gry W xs ys s b o)), (9, .i E14), (8, .i o), (7, .p 1), (5, .t), (4, .f)], [(1, .cells (mr W X11 Y12 [.i s, .i B13, .i l, .i p, .i q]) 31)], 2⟩ [(E14 != 0) = true, True, True] ⟨bne_iff_ne.2 (by omega), trivial, trivial, trivial⟩ ?_
   refine ct ?_
   refine rg [(3, .t)] 10 ⟨[(4, .t), (10, .i (gry W xs ys s b o)), (8, .i o), (7, .p 1), (5, .t)], [(1, .cells (mr W X11 Y12 [.i s, .i B13, .i l, .i p, .i q]) 31)], 2⟩ [(E14 != 9) = true, True, True] ⟨bne_iff_ne.2 (by omega), trivial, trivial, trivial⟩ ?_
   refine xw_ret ?_
   refine an_ret ?_
   exact bs (.t) rfl
 ·
  refine pc (few12_2 W xs ys s b l p q ‹_› ‹_› ‹_› ‹_› ‹_› ‹_› ‹_›) ?_
  refine rk [] 1 2 ⟨[(6, .f), (5, .t), (4, .f), (2, .p 0), (1, .i o)], [(0, .cells (mr W xs ys [.i s, .i b, .i l, .i p, .i q]) 31)], 1⟩ [] trivial ?_
  refine en ?_
  refine an ?_
  refine xw_seq ?_
  refine rg [] 2 ⟨[(15, .t), (5, .t), (4, .f), (2, .p 0), (1, .i o)], [(0, .cells (mr W xs ys [.i s, .i b, .i l, .i p, .i q]) 31)], 1⟩ [] trivial ?_
  refine ct ?_
  refine rg [] 2 ⟨[(4, .t), (5, .t), (2, .p 0), (1, .i o)], [(0, .cells (mr W xs ys [.i s, .i b, .i l, .i p, .i q]) 31)], 1⟩ [] trivial ?_
  refine xw_ret ?_
  refine an_ret ?_
  exact bs (.t) rfl

end Go.Proofs.Ytfcohnhfindlmaa.X
