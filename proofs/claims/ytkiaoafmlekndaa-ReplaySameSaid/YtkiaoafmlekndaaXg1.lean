/- Contracts of Go functions: what each returns, for every input that its premises name; no memory of the caller is touched. Printed by a program. -/
import Derived.Test.YtkiaoafmlekndaaXf1
namespace Go.Proofs.Ytkiaoafmlekndaa.X
open Go Go.RowKit
set_option linter.unusedVariables false      -- a premise may serve only to tell which way is taken
set_option linter.unusedSimpArgs false
set_option maxHeartbeats 8000000 in
theorem rpsame (W : Int) (xs : List Int) (ys : List Int) (s : Int) (b : Int) (l : Int) (p : Int) (q : Int) (a : Int) (hp0 : 16 ≤ W ∧ W ≤ 4096) (hp1 : (xs.length : Int) = W) (hp2 : (ys.length : Int) = W) (hp3 : U64s xs) (hp4 : U64s ys) (hp5 : (s = 0 ∨ s = 1) ∧ 0 ≤ b ∧ b ≤ l ∧ l ≤ 4096) (hp6 : l = W) (hp7 : 0 ≤ p ∧ p ≤ q ∧ q ≤ b) (hp8 : 0 ≤ a ∧ a ≤ 18446744073709551615) : Pub Try.prog 13 [.agg (mr W xs ys [.int .i64 s, .int .i64 b, .int .i64 l, .int .i64 p, .int .i64 q]), .int .u64 a] (fun rv => ((a = 0 ∨ (1 ≤ a / 4294967296 ∧ a / 4294967296 ≤ 2 ∧ a / 4294967296 - 1 = s ∧ (oErr W xs ys a) = 0 ∧ (ldw xs ys a / 72057594037927936) ≠ 255) ∨ ((oErr W xs ys a) = 0 ∧ (ldw xs ys a / 72057594037927936) ≠ 255 ∧ 1 ≤ (ldw xs ys (a + 1)) / 4294967296 ∧ (ldw xs ys (a + 1)) / 4294967296 ≤ 2 ∧ (ldw xs ys (a + 1)) / 4294967296 - 1 = s ∧ (oErr W xs ys (ldw xs ys (a + 1))) = 0 ∧ (ldw xs ys a / 72057594037927936) = (ldw xs ys (ldw xs ys (a + 1)) / 72057594037927936) ∧ ((ldw xs ys a / 4294967296) % 16777216) = ((ldw xs ys (ldw xs ys (a + 1)) / 4294967296) % 16777216) ∧ (ldw xs ys a % 4294967296) = (ldw xs ys (ldw xs ys (a + 1)) % 4294967296) ∧ (aF W xs ys s a (ldw xs ys (a + 1)) ((ldw xs ys a / 4294967296) % 16777216) (ldw xs ys a % 4294967296) ((ldw xs ys a / 4294967296) % 16777216)) = 1)) ∧ rv = .bool true) ∨ ((¬ (a = 0 ∨ (1 ≤ a / 4294967296 ∧ a / 4294967296 ≤ 2 ∧ a / 4294967296 - 1 = s ∧ (oErr W xs ys a) = 0 ∧ (ldw xs ys a / 72057594037927936) ≠ 255) ∨ ((oErr W xs ys a) = 0 ∧ (ldw xs ys a / 72057594037927936) ≠ 255 ∧ 1 ≤ (ldw xs ys (a + 1)) / 4294967296 ∧ (ldw xs ys (a + 1)) / 4294967296 ≤ 2 ∧ (ldw xs ys (a + 1)) / 4294967296 - 1 = s ∧ (oErr W xs ys (ldw xs ys (a + 1))) = 0 ∧ (ldw xs ys a / 72057594037927936) = (ldw xs ys (ldw xs ys (a + 1)) / 72057594037927936) ∧ ((ldw xs ys a / 4294967296) % 16777216) = ((ldw xs ys (ldw xs ys (a + 1)) / 4294967296) % 16777216) ∧ (ldw xs ys a % 4294967296) = (ldw xs ys (ldw xs ys (a + 1)) % 4294967296) ∧ (aF W xs ys s a (ldw xs ys (a + 1)) ((ldw xs ys a / 4294967296) % 16777216) (ldw xs ys a % 4294967296) ((ldw xs ys a / 4294967296) % 16777216)) = 1))) ∧ rv = .bool false)) := by
 refine pub_of TT_ok Try.func13 rfl (by decide) (Nat.le_of_ble_eq_true (by kernel_rfl)) (by kernel_rfl) ?_
 refine rg [] 3 ⟨[(4, .f), (3, .p 1), (2, .p 0)], [(1, .cells [.u a] 32), (0, .cells (mr W xs ys [.i s, .i b, .i l, .i p, .i q]) 31)], 2⟩ [] trivial ?_
 refine xw_seq ?_
 refine xw_seq ?_
 refine reg ?_
 refine rk [(1, .bool (a == 0))] 3 0 ⟨[(15, .bool (a == 0)), (4, .f), (3, .p 1), (2, .p 0)], [(1, .cells [.u a] 32), (0, .cells (mr W xs ys [.i s, .i b, .i l, .i p, .i q]) 31)], 2⟩ [True, (a == 0) = (a == 0)] ⟨trivial, rfl, trivial⟩ ?_
 refine splitr 15 (x := (a == 0)) (by kernel_rfl) (fun h0 => ?_) (fun h0 => ?_)
 ·
  replace h0 : a = 0 := eq_of_beq h0
  refine rk [] 9 3 ⟨[(24, .t), (4, .f), (3, .p 1), (2, .p 0)], [(1, .cells [.u a] 32), (0, .cells (mr W xs ys [.i s, .i b, .i l, .i p, .i q]) 31)], 2⟩ [True] ⟨trivial, trivial⟩ ?_
  refine en ?_
  refine an ?_
  refine ct ?_
  refine rg [] 1 ⟨[(4, .t), (3, .p 1), (2, .p 0)], [(1, .cells [.u a] 32), (0, .cells (mr W xs ys [.i s, .i b, .i l, .i p, .i q]) 31)], 2⟩ [] trivial ?_
  refine xw_ret ?_
  refine an_ret ?_
  exact bs (.t) (Or.inl <| ⟨(by omega), rfl⟩)
 ·
  replace h0 : a ≠ 0 := ne_of_beq_false h0
  refine rk [] 2 3 ⟨[(17, .u a), (16, .agg (mr W xs ys [.i s, .i b, .i l, .i p, .i q])), (15, .f), (4, .f), (3, .p 1), (2, .p 0)], [(1, .cells [.u a] 32), (0, .cells (mr W xs ys [.i s, .i b, .i l, .i p, .i q]) 31)], 2⟩ [True, True] ⟨trivial, trivial, trivial⟩ ?_
  by_cases h1 : 1 ≤ a / 4294967296 ∧ a / 4294967296 ≤ 2 ∧ a / 4294967296 - 1 = s
  ·
   refine pc (rpover_1 W xs ys s b l p q a ‹_› ‹_› ‹_› ‹_› ‹_› ‹_› ‹_› ‹_› ‹_› (by omega)) ?_
   refine rk [] 3 6 ⟨[(21, .u a), (20, .agg (mr W xs ys [.i s, .i b, .i l, .i p, .i q])), (19, .t), (15, .f), (4, .f), (3, .p 1), (2, .p 0)], [(1, .cells [.u a] 32), (0, .cells (mr W xs ys [.i s, .i b, .i l, .i p, .i q]) 31)], 2⟩ [True, True] ⟨trivial, trivial, trivial⟩ ?_
   by_cases h2 : a = 0 ∨ ((oErr W xs ys a) = 0 ∧ (ldw xs ys a / 72057594037927936) ≠ 255 ∧ ((1 ≤ a / 4294967296 ∧ a / 4294967296 ≤ 2 ∧ a / 4294967296 - 1 = s) ∨ (ldw xs ys (a + 1)) ≠ 0))
   ·
    refine pc (tmade_1 W xs ys s b l p q a ‹_› ‹_› ‹_› ‹_› ‹_› ‹_› ‹_› ‹_› ‹_› (by omega)) ?_
    refine rk [] 2 10 ⟨[(24, .t), (4, .f), (3, .p 1), (2, .p 0)], [(1, .cells [.u a] 32), (0, .cells (mr W xs ys [.i s, .i b, .i l, .i p, .i q]) 31)], 2⟩ [True, True] ⟨trivial, trivial, trivial⟩ ?_
    refine en ?_
    refine an ?_
    refine ct ?_
    refine rg [] 1 ⟨[(4, .t), (3, .p 1), (2, .p 0)], [(1, .cells [.u a] 32), (0, .cells (mr W xs ys [.i s, .i b, .i l, .i p, .i q]) 31)], 2⟩ [] trivial ?_
    refine xw_ret ?_
    refine an_ret ?_
    exact bs (.t) (Or.inl <| ⟨(by omega), rfl⟩)
   ·
    refine pc (tmade_2 W xs ys s b l p q a ‹_› ‹_› ‹_› ‹_› ‹_› ‹_› ‹_› ‹_› ‹_› (by omega)) ?_
    refine rk [] 2 10 ⟨[(24, .f), (4, .f), (3, .p 1), (2, .p 0)], [(1, .cells [.u a] 32), (0, .cells (mr W xs ys [.i s, .i b, .i l, .i p, .i q]) 31)], 2⟩ [True, True] ⟨trivial, trivial, trivial⟩ ?_
    refine en ?_
    refine an ?_
    refine cf ?_
    refine xw_skip ?_
    refine an ?_
    refine xw_seq ?_
    refine reg ?_
    refine rk [] 3 0 ⟨[(28, .u a), (27, .agg (mm W xs ys)), (4, .f), (3, .p 1), (2, .p 0)], [(1, .cells [.u a] 32), (0, .cells (mr W xs ys [.i s, .i b, .i l, .i p, .i q]) 31)], 2⟩ [True, True] ⟨trivial, trivial, trivial⟩ ?_
    by_cases h3 : ((oErr W xs ys a) = 0) ∧ ((ldw xs ys a / 72057594037927936) ≠ 255)
    ·
     exfalso; first | omega | simp_all | grind
    ·
     by_cases h4 : ((oErr W xs ys a) = 0) ∧ ((ldw xs ys a / 72057594037927936) = 255)
     ·
      refine pc (otwin_2 W xs ys a ‹_› ‹_› ‹_› ‹_› ‹_› ‹_› (by omega) (by omega)) ?_
      obtain ⟨h5, h6, h7⟩ := oErr_ok W xs ys a (by omega)
      refine rk [] 6 4 ⟨[(5, .p 2), (4, .f), (3, .p 1), (2, .p 0)], [(2, .cells [.u 0] 32), (1, .cells [.u a] 32), (0, .cells (mr W xs ys [.i s, .i b, .i l, .i p, .i q]) 31)], 3⟩ [True] ⟨trivial, trivial⟩ ?_
      refine en ?_
      refine an ?_
      refine xw_seq ?_
      refine reg ?_
      refine rk [] 3 0 ⟨[(35, .u a), (34, .agg (mm W xs ys)), (5, .p 2), (4, .f), (3, .p 1), (2, .p 0)], [(2, .cells [.u 0] 32), (1, .cells [.u a] 32), (0, .cells (mr W xs ys [.i s, .i b, .i l, .i p, .i q]) 31)], 3⟩ [True, True] ⟨trivial, trivial, trivial⟩ ?_
      refine pc (oat_1 W xs ys a ‹_› ‹_› ‹_› ‹_› ‹_› ‹_› (by omega)) ?_
      refine rk [] 6 4 ⟨[(8, .i 0), (7, .p 3), (5, .p 2), (4, .f), (3, .p 1), (2, .p 0)], [(3, .cells [.i (hT xs ys a), .i (hL xs ys a), .u (hM xs ys a)] 37), (2, .cells [.u 0] 32), (1, .cells [.u a] 32), (0, .cells (mr W xs ys [.i s, .i b, .i l, .i p, .i q]) 31)], 4⟩ [True] ⟨trivial, trivial⟩ ?_
      refine en ?_
      refine an ?_
      refine xw_seq ?_
      refine reg ?_
      refine rk [] 3 0 ⟨[(42, .u 0), (41, .agg (mm W xs ys)), (8, .i 0), (7, .p 3), (5, .p 2), (4, .f), (3, .p 1), (2, .p 0)], [(3, .cells [.i (hT xs ys a), .i (hL xs ys a), .u (hM xs ys a)] 37), (2, .cells [.u 0] 32), (1, .cells [.u a] 32), (0, .cells (mr W xs ys [.i s, .i b, .i l, .i p, .i q]) 31)], 4⟩ [True, True] ⟨trivial, trivial, trivial⟩ ?_
      by_cases h8 : (oErr W xs ys 0) = 0
      ·
       refine pc (oat_1 W xs ys 0 ‹_› ‹_› ‹_› ‹_› ‹_› (by omega) ‹_›) ?_
       obtain ⟨h9, h10, h11⟩ := oErr_ok W xs ys 0 ‹_›
       refine rk [] 6 4 ⟨[(10, .i 0), (9, .p 4), (8, .i 0), (7, .p 3), (5, .p 2), (4, .f), (3, .p 1), (2, .p 0)], [(4, .cells [.i (hT xs ys 0), .i (hL xs ys 0), .u (hM xs ys 0)] 37), (3, .cells [.i (hT xs ys a), .i (hL xs ys a), .u (hM xs ys a)] 37), (2, .cells [.u 0] 32), (1, .cells [.u a] 32), (0, .cells (mr W xs ys [.i s, .i b, .i l, .i p, .i q]) 31)], 5⟩ [True] ⟨trivial, trivial⟩ ?_
       refine en ?_
       refine an ?_
       refine xw_seq ?_
       refine rg [(1, .t)] 17 ⟨[(62, .t), (7, .p 3), (5, .p 2), (4, .f), (3, .p 1), (2, .p 0)], [(3, .cells [.i (hT xs ys a), .i (hL xs ys a), .u (hM xs ys a)] 37), (2, .cells [.u 0] 32), (1, .cells [.u a] 32), (0, .cells (mr W xs ys [.i s, .i b, .i l, .i p, .i q]) 31)], 5⟩ [(0 != 0) = true, True, True, True] ⟨bne_iff_ne.2 (by omega), trivial, trivial, trivial, trivial⟩ ?_
       refine ct ?_
       refine rg [] 1 ⟨[(4, .f), (7, .p 3), (5, .p 2), (3, .p 1), (2, .p 0)], [(3, .cells [.i (hT xs ys a), .i (hL xs ys a), .u (hM xs ys a)] 37), (2, .cells [.u 0] 32), (1, .cells [.u a] 32), (0, .cells (mr W xs ys [.i s, .i b, .i l, .i p, .i q]) 31)], 5⟩ [] trivial ?_
       refine xw_ret ?_
       refine an_ret ?_
       exact bs (.f) (Or.inr <| ⟨(by omega), rfl⟩)
      ·
       refine pc (oat_2 W xs ys 0 ‹_› ‹_› ‹_› ‹_› ‹_› (by omega) ‹_›) ?_
       have h9 : (oErr W xs ys 0) = 2 ∨ (oErr W xs ys 0) = 10 := oErr_no W xs ys 0 (by omega)
       refine rk [] 6 4 ⟨[(10, .i (oErr W xs ys 0)), (9, .p 4), (8, .i 0), (7, .p 3), (5, .p 2), (4, .f), (3, .p 1), (2, .p 0)], [(4, .cells [.i 0, .i 0, .u 0] 37), (3, .cells [.i (hT xs ys a), .i (hL xs ys a), .u (hM xs ys a)] 37), (2, .cells [.u 0] 32), (1, .cells [.u a] 32), (0, .cells (mr W xs ys [.i s, .i b, .i l, .i p, .i q]) 31)], 5⟩ [True] ⟨trivial, trivial⟩ ?_
       refine en ?_
       refine an ?_
       refine xw_seq ?_
       refine rg [(1, .f), (4, .t)] 17 ⟨[(62, .t), (7, .p 3), (5, .p 2), (4, .f), (3, .p 1), (2, .p 0)], [(3, .cells [.i (hT xs ys a), .i (hL xs ys a), .u (hM xs ys a)] 37), (2, .cells [.u 0] 32), (1, .cells [.u a] 32), (0, .cells (mr W xs ys [.i s, .i b, .i l, .i p, .i q]) 31)], 5⟩ [(0 != 0) = false, ((oErr W xs ys 0) != 0) = true, True, True, True] ⟨bne_eq_false_iff_eq.2 (by omega), bne_iff_ne.2 (by omega), trivial, trivial, trivial, trivial⟩ ?_
       refine ct ?_
       refine rg [] 1 ⟨[(4, .f), (7, .p 3), (5, .p 2), (3, .p 1), (2, .p 0)], [(3, .cells [.i (hT xs ys a), .i (hL xs ys a), .u (hM xs ys a)] 37), (2, .cells [.u 0] 32), (1, .cells [.u a] 32), (0, .cells (mr W xs ys [.i s, .i b, .i l, .i p, .i q]) 31)], 5⟩ [] trivial ?_
       refine xw_ret ?_
       refine an_ret ?_
       exact bs (.f) (Or.inr <| ⟨(by omega), rfl⟩)
     ·
      refine pc (otwin_3 W xs ys a ‹_› ‹_› ‹_› ‹_› ‹_› ‹_› (by omega)) ?_
      have h5 : (oErr W xs ys a) = 2 ∨ (oErr W xs ys a) = 10 := oErr_no W xs ys a (by omega)
      refine rk [] 6 4 ⟨[(5, .p 2), (4, .f), (3, .p 1), (2, .p 0)], [(2, .cells [.u 0] 32), (1, .cells [.u a] 32), (0, .cells (mr W xs ys [.i s, .i b, .i l, .i p, .i q]) 31)], 3⟩ [True] ⟨trivial, trivial⟩ ?_
      refine en ?_
      refine an ?_
      refine xw_seq ?_
      refine reg ?_
      refine rk [] 3 0 ⟨[(35, .u a), (34, .agg (mm W xs ys)), (5, .p 2), (4, .f), (3, .p 1), (2, .p 0)], [(2, .cells [.u 0] 32), (1, .cells [.u a] 32), (0, .cells (mr W xs ys [.i s, .i b, .i l, .i p, .i q]) 31)], 3⟩ [True, True] ⟨trivial, trivial, trivial⟩ ?_
      refine pc (oat_2 W xs ys a ‹_› ‹_› ‹_› ‹_› ‹_› ‹_› (by omega)) ?_
      refine rk [] 6 4 ⟨[(8, .i (oErr W xs ys a)), (7, .p 3), (5, .p 2), (4, .f), (3, .p 1), (2, .p 0)], [(3, .cells [.i 0, .i 0, .u 0] 37), (2, .cells [.u 0] 32), (1, .cells [.u a] 32), (0, .cells (mr W xs ys [.i s, .i b, .i l, .i p, .i q]) 31)], 4⟩ [True] ⟨trivial, trivial⟩ ?_
      refine en ?_
      refine an ?_
      refine xw_seq ?_
      refine reg ?_
      refine rk [] 3 0 ⟨[(42, .u 0), (41, .agg (mm W xs ys)), (8, .i (oErr W xs ys a)), (7, .p 3), (5, .p 2), (4, .f), (3, .p 1), (2, .p 0)], [(3, .cells [.i 0, .i 0, .u 0] 37), (2, .cells [.u 0] 32), (1, .cells [.u a] 32), (0, .cells (mr W xs ys [.i s, .i b, .i l, .i p, .i q]) 31)], 4⟩ [True, True] ⟨trivial, trivial, trivial⟩ ?_
      by_cases h6 : (oErr W xs ys 0) = 0
      ·
       refine pc (oat_1 W xs ys 0 ‹_› ‹_› ‹_› ‹_› ‹_› (by omega) ‹_›) ?_
       obtain ⟨h7, h8, h9⟩ := oErr_ok W xs ys 0 ‹_›
       refine rk [] 6 4 ⟨[(10, .i 0), (9, .p 4), (8, .i (oErr W xs ys a)), (7, .p 3), (5, .p 2), (4, .f), (3, .p 1), (2, .p 0)], [(4, .cells [.i (hT xs ys 0), .i (hL xs ys 0), .u (hM xs ys 0)] 37), (3, .cells [.i 0, .i 0, .u 0] 37), (2, .cells [.u 0] 32), (1, .cells [.u a] 32), (0, .cells (mr W xs ys [.i s, .i b, .i l, .i p, .i q]) 31)], 5⟩ [True] ⟨trivial, trivial⟩ ?_
       refine en ?_
       refine an ?_
       refine xw_seq ?_
       refine rg [(1, .t)] 17 ⟨[(62, .t), (7, .p 3), (5, .p 2), (4, .f), (3, .p 1), (2, .p 0)], [(3, .cells [.i 0, .i 0, .u 0] 37), (2, .cells [.u 0] 32), (1, .cells [.u a] 32), (0, .cells (mr W xs ys [.i s, .i b, .i l, .i p, .i q]) 31)], 5⟩ [((oErr W xs ys a) != 0) = true, True, True, True] ⟨bne_iff_ne.2 (by omega), trivial, trivial, trivial, trivial⟩ ?_
       refine ct ?_
       refine rg [] 1 ⟨[(4, .f), (7, .p 3), (5, .p 2), (3, .p 1), (2, .p 0)], [(3, .cells [.i 0, .i 0, .u 0] 37), (2, .cells [.u 0] 32), (1, .cells [.u a] 32), (0, .cells (mr W xs ys [.i s, .i b, .i l, .i p, .i q]) 31)], 5⟩ [] trivial ?_
       refine xw_ret ?_
       refine an_ret ?_
       exact bs (.f) (Or.inr <| ⟨(by omega), rfl⟩)
      ·
       refine pc (oat_2 W xs ys 0 ‹_› ‹_› ‹_› ‹_› ‹_› (by omega) ‹_›) ?_
       have h7 : (oErr W xs ys 0) = 2 ∨ (oErr W xs ys 0) = 10 := oErr_no W xs ys 0 (by omega)
       refine rk [] 6 4 ⟨[(10, .i (oErr W xs ys 0)), (9, .p 4), (8, .i (oErr W xs ys a)), (7, .p 3), (5, .p 2), (4, .f), (3, .p 1), (2, .p 0)], [(4, .cells [.i 0, .i 0, .u 0] 37), (3, .cells [.i 0, .i 0, .u 0] 37), (2, .cells [.u 0] 32), (1, .cells [.u a] 32), (0, .cells (mr W xs ys [.i s, .i b, .i l, .i p, .i q]) 31)], 5⟩ [True] ⟨trivial, trivial⟩ ?_
       refine en ?_
       refine an ?_
       refine xw_seq ?_
       refine rg [(1, .t)] 17 ⟨[(62, .t), (7, .p 3), (5, .p 2), (4, .f), (3, .p 1), (2, .p 0)], [(3, .cells [.i 0, .i 0, .u 0] 37), (2, .cells [.u 0] 32), (1, .cells [.u a] 32), (0, .cells (mr W xs ys [.i s, .i b, .i l, .i p, .i q]) 31)], 5⟩ [((oErr W xs ys a) != 0) = true, True, True, True] ⟨bne_iff_ne.2 (by omega), trivial, trivial, trivial, trivial⟩ ?_
       refine ct ?_
       refine rg [] 1 ⟨[(4, .f), (7, .p 3), (5, .p 2), (3, .p 1), (2, .p 0)], [(3, .cells [.i 0, .i 0, .u 0] 37), (2, .cells [.u 0] 32), (1, .cells [.u a] 32), (0, .cells (mr W xs ys [.i s, .i b, .i l, .i p, .i q]) 31)], 5⟩ [] trivial ?_
       refine xw_ret ?_
       refine an_ret ?_
       exact bs (.f) (Or.inr <| ⟨(by omega), rfl⟩)
  ·
   refine pc (rpover_2 W xs ys s b l p q a ‹_› ‹_› ‹_› ‹_› ‹_› ‹_› ‹_› ‹_› ‹_› (by omega)) ?_
   refine rk [] 6 6 ⟨[(24, .f), (4, .f), (3, .p 1), (2, .p 0)], [(1, .cells [.u a] 32), (0, .cells (mr W xs ys [.i s, .i b, .i l, .i p, .i q]) 31)], 2⟩ [True, True] ⟨trivial, trivial, trivial⟩ ?_
   refine en ?_
   refine an ?_
   refine cf ?_
   refine xw_skip ?_
   refine an ?_
   refine xw_seq ?_
   refine reg ?_
   refine rk [] 3 0 ⟨[(28, .u a), (27, .agg (mm W xs ys)), (4, .f), (3, .p 1), (2, .p 0)], [(1, .cells [.u a] 32), (0, .cells (mr W xs ys [.i s, .i b, .i l, .i p, .i q]) 31)], 2⟩ [True, True] ⟨trivial, trivial, trivial⟩ ?_
   by_cases h2 : ((oErr W xs ys a) = 0) ∧ ((ldw xs ys a / 72057594037927936) ≠ 255)
   ·
    refine pc (otwin_1 W xs ys a ‹_› ‹_› ‹_› ‹_› ‹_› ‹_› (by omega) (by omega)) ?_
    obtain ⟨h3, h4, h5⟩ := oErr_ok W xs ys a (by omega)
    have h6 : 0 ≤ (ldw xs ys (a + 1)) ∧ (ldw xs ys (a + 1)) ≤ 18446744073709551615 := ldw_ok xs ys (a + 1) ‹_› ‹_›
    have h7 : 1 ≤ (a + 1) / 4294967296 ∧ (a + 1) / 4294967296 ≤ 2 ∧ (a + 1) % 4294967296 < W := by omega
    refine rk [] 6 4 ⟨[(5, .p 2), (4, .f), (3, .p 1), (2, .p 0)], [(2, .cells [.u (ldw xs ys (a + 1))] 32), (1, .cells [.u a] 32), (0, .cells (mr W xs ys [.i s, .i b, .i l, .i p, .i q]) 31)], 3⟩ [True] ⟨trivial, trivial⟩ ?_
    refine en ?_
    refine an ?_
    refine xw_seq ?_
    refine reg ?_
    refine rk [] 3 0 ⟨[(35, .u a), (34, .agg (mm W xs ys)), (5, .p 2), (4, .f), (3, .p 1), (2, .p 0)], [(2, .cells [.u (ldw xs ys (a + 1))] 32), (1, .cells [.u a] 32), (0, .cells (mr W xs ys [.i s, .i b, .i l, .i p, .i q]) 31)], 3⟩ [True, True] ⟨trivial, trivial, trivial⟩ ?_
    refine pc (oat_1 W xs ys a ‹_› ‹_› ‹_› ‹_› ‹_› ‹_› (by omega)) ?_
    refine rk [] 6 4 ⟨[(8, .i 0), (7, .p 3), (5, .p 2), (4, .f), (3, .p 1), (2, .p 0)], [(3, .cells [.i (hT xs ys a), .i (hL xs ys a), .u (hM xs ys a)] 37), (2, .cells [.u (ldw xs ys (a + 1))] 32), (1, .cells [.u a] 32), (0, .cells (mr W xs ys [.i s, .i b, .i l, .i p, .i q]) 31)], 4⟩ [True] ⟨trivial, trivial⟩ ?_
    refine en ?_
    refine an ?_
    refine xw_seq ?_
    refine reg ?_
    refine rk [] 3 0 ⟨[(42, .u (ldw xs ys (a + 1))), (41, .agg (mm W xs ys)), (8, .i 0), (7, .p 3), (5, .p 2), (4, .f), (3, .p 1), (2, .p 0)], [(3, .cells [.i (hT xs ys a), .i (hL xs ys a), .u (hM xs ys a)] 37), (2, .cells [.u (ldw xs ys (a + 1))] 32), (1, .cells [.u a] 32), (0, .cells (mr W xs ys [.i s, .i b, .i l, .i p, .i q]) 31)], 4⟩ [True, True] ⟨trivial, trivial, trivial⟩ ?_
    by_cases h8 : (oErr W xs ys (ldw xs ys (a + 1))) = 0
    ·
     refine pc (oat_1 W xs ys (ldw xs ys (a + 1)) ‹_› ‹_› ‹_› ‹_› ‹_› ‹_› ‹_›) ?_
     obtain ⟨h9, h10, h11⟩ := oErr_ok W xs ys (ldw xs ys (a + 1)) ‹_›
     refine rk [] 6 4 ⟨[(10, .i 0), (9, .p 4), (8, .i 0), (7, .p 3), (5, .p 2), (4, .f), (3, .p 1), (2, .p 0)], [(4, .cells [.i (hT xs ys (ldw xs ys (a + 1))), .i (hL xs ys (ldw xs ys (a + 1))), .u (hM xs ys (ldw xs ys (a + 1)))] 37), (3, .cells [.i (hT xs ys a), .i (hL xs ys a), .u (hM xs ys a)] 37), (2, .cells [.u (ldw xs ys (a + 1))] 32), (1, .cells [.u a] 32), (0, .cells (mr W xs ys [.i s, .i b, .i l, .i p, .i q]) 31)], 5⟩ [True] ⟨trivial, trivial⟩ ?_
     refine en ?_
     refine an ?_
     refine xw_seq ?_
     refine xw_seq ?_
     refine reg ?_
     refine rk [(1, .f), (4, .f), (9, .bool (!(((ldw xs ys a / 72057594037927936) == (ldw xs ys (ldw xs ys (a + 1)) / 72057594037927936)) && ((((ldw xs ys a / 4294967296) % 16777216) == ((ldw xs ys (ldw xs ys (a + 1)) / 4294967296) % 16777216)) && (((ldw xs ys a % 4294967296) == (ldw xs ys (ldw xs ys (a + 1)) % 4294967296)) && true)))))] 12 0 ⟨[(57, .bool (!(((hT xs ys a) == (hT xs ys (ldw xs ys (a + 1)))) && (((hL xs ys a) == (hL xs ys (ldw xs ys (a + 1)))) && (((hM xs ys a) == (hM xs ys (ldw xs ys (a + 1)))) && true))))), (7, .p 3), (5, .p 2), (4, .f), (3, .p 1), (2, .p 0)], [(3, .cells [.i (hT xs ys a), .i (hL xs ys a), .u (hM xs ys a)] 37), (2, .cells [.u (ldw xs ys (a + 1))] 32), (1, .cells [.u a] 32), (0, .cells (mr W xs ys [.i s, .i b, .i l, .i p, .i q]) 31)], 5⟩ [(0 != 0) = false, (0 != 0) = false, True, True, True, (!(((ldw xs ys a / 72057594037927936) == (ldw xs ys (ldw xs ys (a + 1)) / 72057594037927936)) && ((((ldw xs ys a / 4294967296) % 16777216) == ((ldw xs ys (ldw xs ys (a + 1)) / 4294967296) % 16777216)) && (((ldw xs ys a % 4294967296) == (ldw xs ys (ldw xs ys (a + 1)) % 4294967296)) && true)))) = (!(((ldw xs ys a / 72057594037927936) == (ldw xs ys (ldw xs ys (a + 1)) / 72057594037927936)) && ((((ldw xs ys a / 4294967296) % 16777216) == ((ldw xs ys (ldw xs ys (a + 1)) / 4294967296) % 16777216)) && (((ldw xs ys a % 4294967296) == (ldw xs ys (ldw xs ys (a + 1)) % 4294967296)) && true)))), True] ⟨bne_eq_false_iff_eq.2 (by omega), bne_eq_false_iff_eq.2 (by omega), trivial, trivial, trivial, rfl, trivial, trivial⟩ ?_
     refine splitr 57 (x := (!(((ldw xs ys a / 72057594037927936) == (ldw xs ys (ldw xs ys (a + 1)) / 72057594037927936)) && ((((ldw xs ys a / 4294967296) % 16777216) == ((ldw xs ys (ldw xs ys (a + 1)) / 4294967296) % 16777216)) && (((ldw xs ys a % 4294967296) == (ldw xs ys (ldw xs ys (a + 1)) % 4294967296)) && true))))) (by kernel_rfl) (fun h12 => ?_) (fun h12 => ?_)
     ·
      replace h12 : ¬ (((ldw xs ys a / 72057594037927936) = (ldw xs ys (ldw xs ys (a + 1)) / 72057594037927936)) ∧ ((((ldw xs ys a / 4294967296) % 16777216) = ((ldw xs ys (ldw xs ys (a + 1)) / 4294967296) % 16777216)) ∧ ((ldw xs ys a % 4294967296) = (ldw xs ys (ldw xs ys (a + 1)) % 4294967296)))) := by first | (simp; done) | simpa using h12 | (simp at h12; omega)
      refine rk [] 5 12 ⟨[(62, .t), (7, .p 3), (5, .p 2), (4, .f), (3, .p 1), (2, .p 0)], [(3, .cells [.i (hT xs ys a), .i (hL xs ys a), .u (hM xs ys a)] 37), (2, .cells [.u (ldw xs ys (a + 1))] 32), (1, .cells [.u a] 32), (0, .cells (mr W xs ys [.i s, .i b, .i l, .i p, .i q]) 31)], 5⟩ [True] ⟨trivial, trivial⟩ ?_
      refine en ?_
      refine an ?_
      refine ct ?_
      refine rg [] 1 ⟨[(4, .f), (7, .p 3), (5, .p 2), (3, .p 1), (2, .p 0)], [(3, .cells [.i (hT xs ys a), .i (hL xs ys a), .u (hM xs ys a)] 37), (2, .cells [.u (ldw xs ys (a + 1))] 32), (1, .cells [.u a] 32), (0, .cells (mr W xs ys [.i s, .i b, .i l, .i p, .i q]) 31)], 5⟩ [] trivial ?_
      refine xw_ret ?_
      refine an_ret ?_
      exact bs (.f) (Or.inr <| ⟨(by omega), rfl⟩)
     ·
      replace h12 : ((ldw xs ys a / 72057594037927936) = (ldw xs ys (ldw xs ys (a + 1)) / 72057594037927936)) ∧ ((((ldw xs ys a / 4294967296) % 16777216) = ((ldw xs ys (ldw xs ys (a + 1)) / 4294967296) % 16777216)) ∧ ((ldw xs ys a % 4294967296) = (ldw xs ys (ldw xs ys (a + 1)) % 4294967296))) := by first | (simp; done) | simpa using h12
      refine rk [] 2 12 ⟨[(59, .u (ldw xs ys (a + 1))), (58, .agg (mr W xs ys [.i s, .i b, .i l, .i p, .i q])), (57, .f), (7, .p 3), (5, .p 2), (4, .f), (3, .p 1), (2, .p 0)], [(3, .cells [.i (hT xs ys a), .i (hL xs ys a), .u (hM xs ys a)] 37), (2, .cells [.u (ldw xs ys (a + 1))] 32), (1, .cells [.u a] 32), (0, .cells (mr W xs ys [.i s, .i b, .i l, .i p, .i q]) 31)], 5⟩ [True, True] ⟨trivial, trivial, trivial⟩ ?_
      by_cases h13 : 1 ≤ (ldw xs ys (a + 1)) / 4294967296 ∧ (ldw xs ys (a + 1)) / 4294967296 ≤ 2 ∧ (ldw xs ys (a + 1)) / 4294967296 - 1 = s
      ·
       refine pc (rpover_1 W xs ys s b l p q (ldw xs ys (a + 1)) ‹_› ‹_› ‹_› ‹_› ‹_› ‹_› ‹_› ‹_› ‹_› (by omega)) ?_
       refine rk [] 2 15 ⟨[(62, .f), (7, .p 3), (5, .p 2), (4, .f), (3, .p 1), (2, .p 0)], [(3, .cells [.i (hT xs ys a), .i (hL xs ys a), .u (hM xs ys a)] 37), (2, .cells [.u (ldw xs ys (a + 1))] 32), (1, .cells [.u a] 32), (0, .cells (mr W xs ys [.i s, .i b, .i l, .i p, .i q]) 31)], 5⟩ [True] ⟨trivial, trivial⟩ ?_
       refine en ?_
       refine an ?_
       refine cf ?_
       refine xw_skip ?_
       refine an ?_
       refine rg [] 2 ⟨[(11, .fn 37 [] [.p 0, .p 1, .p 2]), (7, .p 3), (4, .f)], [(3, .cells [.i (hT xs ys a), .i (hL xs ys a), .u (hM xs ys a)] 37), (2, .cells [.u (ldw xs ys (a + 1))] 32), (1, .cells [.u a] 32), (0, .cells (mr W xs ys [.i s, .i b, .i l, .i p, .i q]) 31)], 5⟩ [] trivial ?_
       refine xw_seq ?_
       refine rg [] 3 ⟨[(66, .i 0), (65, .i (hL xs ys a)), (11, .fn 37 [] [.p 0, .p 1, .p 2]), (4, .f)], [(2, .cells [.u (ldw xs ys (a + 1))] 32), (1, .cells [.u a] 32), (0, .cells (mr W xs ys [.i s, .i b, .i l, .i p, .i q]) 31)], 5⟩ [True] ⟨trivial, trivial⟩ ?_
       refine xw_block ?_
       refine xw_loop (α := {qq : Int // (0 ≤ qq) ∧ (qq ≤ ((ldw xs ys a / 4294967296) % 16777216)) ∧ ((aF W xs ys s a (ldw xs ys (a + 1)) ((ldw xs ys a / 4294967296) % 16777216) (ldw xs ys a % 4294967296) qq) = 1)}) (fun pp => ⟨[(66, .i pp.1), (65, .i (hL xs ys a)), (11, .fn 37 [] [.p 0, .p 1, .p 2]), (4, .f)], [(2, .cells [.u (ldw xs ys (a + 1))] 32), (1, .cells [.u a] 32), (0, .cells (mr W xs ys [.i s, .i b, .i l, .i p, .i q]) 31)], 5⟩) (fun pp => (((ldw xs ys a / 4294967296) % 16777216) - pp.1).toNat) ⟨0, ⟨(by omega), (by omega), (by first | exact aF_0 rfl | exact aF_next (i := i1) ‹_› (by omega) (fF_p (by first | exact .inl ‹_› | exact .inr (.inl (by omega)) | exact .inr (.inr (by omega))) (by omega)) rfl | exact aF_next (i := i1) ‹_› (by omega) (fF_o (by omega) (by omega)) rfl | exact aF_next (i := i1) ‹_› (by omega) (fF_t ‹_› (by omega) (by omega) (by omega) (by omega) (by omega) (by omega)) rfl)⟩⟩ (le_of [] [(0 : Int) = 0, (((ldw xs ys a / 4294967296) % 16777216) : Int) = ((ldw xs ys a / 4294967296) % 16777216), false = false, ((ldw xs ys (a + 1)) : Int) = (ldw xs ys (a + 1)), (a : Int) = a, (W : Int) = W, (false = true → false = true), ((m64 xs) : List SV) = (m64 xs), (false = true → false = true), ((m64 ys) : List SV) = (m64 ys), (s : Int) = s, (b : Int) = b, (l : Int) = l, (p : Int) = p, (q : Int) = q] (by kernel_rfl) ⟨rfl, rfl, rfl, rfl, rfl, rfl, id, rfl, id, rfl, rfl, rfl, rfl, rfl, rfl, trivial⟩) ?_
       rintro ⟨i1, h14, h15, h16⟩
       show XW _ _ _ _ _ ⟨[(66, .int .i64 i1), (65, .int .i64 ((ldw xs ys a / 4294967296) % 16777216)), (11, .fn 37 [] [.loc 0 0, .loc 1 0, .loc 2 0]), (4, .bool false)], [(2, .cells [.int .u64 (ldw xs ys (a + 1))] 32), (1, .cells [.int .u64 a] 32), (0, .cells (mr W xs ys [.int .i64 s, .int .i64 b, .int .i64 l, .int .i64 p, .int .i64 q]) 31)], 5⟩
       refine rg [(0, .bool (decide (i1 < ((ldw xs ys a / 4294967296) % 16777216))))] 1 ⟨[(67, .bool (decide (i1 < (hL xs ys a)))), (66, .i i1), (65, .i (hL xs ys a)), (11, .fn 37 [] [.p 0, .p 1, .p 2]), (4, .f)], [(2, .cells [.u (ldw xs ys (a + 1))] 32), (1, .cells [.u a] 32), (0, .cells (mr W xs ys [.i s, .i b, .i l, .i p, .i q]) 31)], 5⟩ [(decide (i1 < ((ldw xs ys a / 4294967296) % 16777216))) = (decide (i1 < ((ldw xs ys a / 4294967296) % 16777216)))] ⟨rfl, trivial⟩ ?_
       refine xw_seq ?_
       refine xw_cond (b := (decide (i1 < ((ldw xs ys a / 4294967296) % 16777216)))) (by kernel_rfl) (fun h17 => ?_) (fun h17 => ?_)
       ·
        replace h17 : i1 < ((ldw xs ys a / 4294967296) % 16777216) := of_decide_eq_true h17
        refine xw_skip ?_
        refine an ?_
        refine xw_seq ?_
        refine xw_block ?_
        refine rg [] 2 ⟨[(12, .i i1), (66, .i i1), (65, .i (hL xs ys a)), (11, .fn 37 [] [.p 0, .p 1, .p 2]), (4, .f)], [(2, .cells [.u (ldw xs ys (a + 1))] 32), (1, .cells [.u a] 32), (0, .cells (mr W xs ys [.i s, .i b, .i l, .i p, .i q]) 31)], 5⟩ [] trivial ?_
        refine xw_seq ?_
        refine reg ?_
        refine rk [] 2 0 ⟨[(70, .i i1), (69, .fn 37 [] [.p 0, .p 1, .p 2]), (66, .i i1), (65, .i (hL xs ys a)), (11, .fn 37 [] [.p 0, .p 1, .p 2]), (4, .f)], [(2, .cells [.u (ldw xs ys (a + 1))] 32), (1, .cells [.u a] 32), (0, .cells (mr W xs ys [.i s, .i b, .i l, .i p, .i q]) 31)], 5⟩ [] trivial ?_
        refine callx (f := 37) (args := [.i i1, .p 0, .p 1, .p 2]) (d := (some 71)) (by kernel_rfl) (xcall_of TT_ok Try.func37 rfl (by decide) (Nat.le_of_ble_eq_true (by kernel_rfl)) ?_)
        refine rg [] 1 ⟨[(5, .f), (0, .i i1), (1, .p 0), (2, .p 1), (3, .p 2)], [(2, .cells [.u (ldw xs ys (a + 1))] 32), (1, .cells [.u a] 32), (0, .cells (mr W xs ys [.i s, .i b, .i l, .i p, .i q]) 31)], 5⟩ [] trivial ?_
        refine xw_seq ?_
        refine reg ?_
        refine rk [] 4 0 ⟨[(18, .i i1), (17, .u a), (16, .agg (mm W xs ys)), (5, .f), (0, .i i1), (1, .p 0), (3, .p 2)], [(2, .cells [.u (ldw xs ys (a + 1))] 32), (1, .cells [.u a] 32), (0, .cells (mr W xs ys [.i s, .i b, .i l, .i p, .i q]) 31)], 5⟩ [True, True] ⟨trivial, trivial, trivial⟩ ?_
        refine pc (oget_1 W xs ys a i1 ‹_› ‹_› ‹_› ‹_› ‹_› ‹_› (by omega) (by omega) (by omega) (by omega)) ?_
        have h18 : 0 ≤ (ldw xs ys (a + 2 + i1)) ∧ (ldw xs ys (a + 2 + i1)) ≤ 18446744073709551615 := ldw_ok xs ys (a + 2 + i1) ‹_› ‹_›
        have h19 : 1 ≤ (a + 2 + i1) / 4294967296 ∧ (a + 2 + i1) / 4294967296 ≤ 2 ∧ (a + 2 + i1) % 4294967296 < W := by omega
        refine rk [] 7 5 ⟨[(8, .i 0), (7, .bool (isPtr (hL xs ys a) (hM xs ys a) i1)), (6, .u (ldw xs ys (a + 2 + i1))), (5, .f), (0, .i i1), (1, .p 0), (3, .p 2)], [(2, .cells [.u (ldw xs ys (a + 1))] 32), (1, .cells [.u a] 32), (0, .cells (mr W xs ys [.i s, .i b, .i l, .i p, .i q]) 31)], 5⟩ [] trivial ?_
        refine en ?_
        refine an ?_
        refine xw_seq ?_
        refine reg ?_
        refine rk [] 4 0 ⟨[(27, .i i1), (26, .u (ldw xs ys (a + 1))), (25, .agg (mm W xs ys)), (8, .i 0), (7, .bool (isPtr (hL xs ys a) (hM xs ys a) i1)), (6, .u (ldw xs ys (a + 2 + i1))), (5, .f), (1, .p 0)], [(2, .cells [.u (ldw xs ys (a + 1))] 32), (1, .cells [.u a] 32), (0, .cells (mr W xs ys [.i s, .i b, .i l, .i p, .i q]) 31)], 5⟩ [True, True] ⟨trivial, trivial, trivial⟩ ?_
        refine pc (oget_1 W xs ys (ldw xs ys (a + 1)) i1 ‹_› ‹_› ‹_› ‹_› ‹_› ‹_› (by omega) ‹_› (by omega) (by omega)) ?_
        have h20 : 0 ≤ (ldw xs ys ((ldw xs ys (a + 1)) + 2 + i1)) ∧ (ldw xs ys ((ldw xs ys (a + 1)) + 2 + i1)) ≤ 18446744073709551615 := ldw_ok xs ys ((ldw xs ys (a + 1)) + 2 + i1) ‹_› ‹_›
        have h21 : 1 ≤ ((ldw xs ys (a + 1)) + 2 + i1) / 4294967296 ∧ ((ldw xs ys (a + 1)) + 2 + i1) / 4294967296 ≤ 2 ∧ ((ldw xs ys (a + 1)) + 2 + i1) % 4294967296 < W := by omega
        refine rk [] 7 5 ⟨[(9, .u (ldw xs ys ((ldw xs ys (a + 1)) + 2 + i1))), (8, .i 0), (7, .bool (isPtr (hL xs ys a) (hM xs ys a) i1)), (6, .u (ldw xs ys (a + 2 + i1))), (5, .f), (1, .p 0)], [(2, .cells [.u (ldw xs ys (a + 1))] 32), (1, .cells [.u a] 32), (0, .cells (mr W xs ys [.i s, .i b, .i l, .i p, .i q]) 31)], 5⟩ [] trivial ?_
        refine en ?_
        refine an ?_
        refine xw_seq ?_
        refine xw_seq ?_
        refine reg ?_
        refine rk [(1, .f)] 7 0 ⟨[(38, .bool (!(isPtr (hL xs ys a) (hM xs ys a) i1))), (9, .u (ldw xs ys ((ldw xs ys (a + 1)) + 2 + i1))), (8, .i 0), (6, .u (ldw xs ys (a + 2 + i1))), (5, .f), (1, .p 0)], [(2, .cells [.u (ldw xs ys (a + 1))] 32), (1, .cells [.u a] 32), (0, .cells (mr W xs ys [.i s, .i b, .i l, .i p, .i q]) 31)], 5⟩ [(0 != 0) = false, True] ⟨bne_eq_false_iff_eq.2 (by omega), trivial, trivial⟩ ?_
        refine splitr 38 (x := (!(isPtr ((ldw xs ys a / 4294967296) % 16777216) (ldw xs ys a % 4294967296) i1))) (by kernel_rfl) (fun h22 => ?_) (fun h22 => ?_)
        ·
         replace h22 : isPtr ((ldw xs ys a / 4294967296) % 16777216) (ldw xs ys a % 4294967296) i1 = false := by first | (simp; done) | simpa using h22 | (simp at h22; omega)
         refine rk [] 7 7 ⟨[(45, .t), (9, .u (ldw xs ys ((ldw xs ys (a + 1)) + 2 + i1))), (8, .i 0), (6, .u (ldw xs ys (a + 2 + i1))), (5, .f), (1, .p 0)], [(2, .cells [.u (ldw xs ys (a + 1))] 32), (1, .cells [.u a] 32), (0, .cells (mr W xs ys [.i s, .i b, .i l, .i p, .i q]) 31)], 5⟩ [True, True] ⟨trivial, trivial, trivial⟩ ?_
         refine en ?_
         refine an ?_
         refine ct ?_
         refine rg [(1, .t), (5, .bool ((ldw xs ys (a + 2 + i1)) == (ldw xs ys ((ldw xs ys (a + 1)) + 2 + i1))))] 8 ⟨[(5, .bool ((ldw xs ys (a + 2 + i1)) == (ldw xs ys ((ldw xs ys (a + 1)) + 2 + i1)))), (9, .u (ldw xs ys ((ldw xs ys (a + 1)) + 2 + i1))), (6, .u (ldw xs ys (a + 2 + i1))), (1, .p 0)], [(2, .cells [.u (ldw xs ys (a + 1))] 32), (1, .cells [.u a] 32), (0, .cells (mr W xs ys [.i s, .i b, .i l, .i p, .i q]) 31)], 5⟩ [(0 == 0) = true, ((ldw xs ys (a + 2 + i1)) == (ldw xs ys ((ldw xs ys (a + 1)) + 2 + i1))) = ((ldw xs ys (a + 2 + i1)) == (ldw xs ys ((ldw xs ys (a + 1)) + 2 + i1))), True] ⟨beq_iff_eq.2 (by omega), rfl, trivial, trivial⟩ ?_
         refine xw_ret ?_
         refine an_ret ?_
         refine ⟨.bool ((ldw xs ys (a + 2 + i1)) == (ldw xs ys ((ldw xs ys (a + 1)) + 2 + i1))), by kernel_rfl, ?_⟩
         show XOi _ _ _ _ _ _ ⟨[(71, .bool ((ldw xs ys (a + 2 + i1)) == (ldw xs ys ((ldw xs ys (a + 1)) + 2 + i1)))), (70, .int .i64 i1), (69, .fn 37 [] [.loc 0 0, .loc 1 0, .loc 2 0]), (66, .int .i64 i1), (65, .int .i64 ((ldw xs ys a / 4294967296) % 16777216)), (11, .fn 37 [] [.loc 0 0, .loc 1 0, .loc 2 0]), (4, .bool false)], [(2, .cells [.int .u64 (ldw xs ys (a + 1))] 32), (1, .cells [.int .u64 a] 32), (0, .cells (mr W xs ys [.int .i64 s, .int .i64 b, .int .i64 l, .int .i64 p, .int .i64 q]) 31)], 5⟩
         refine rk [] 1 3 ⟨[(72, .bool (!((ldw xs ys (a + 2 + i1)) == (ldw xs ys ((ldw xs ys (a + 1)) + 2 + i1))))), (66, .i i1), (65, .i (hL xs ys a)), (11, .fn 37 [] [.p 0, .p 1, .p 2]), (4, .f)], [(2, .cells [.u (ldw xs ys (a + 1))] 32), (1, .cells [.u a] 32), (0, .cells (mr W xs ys [.i s, .i b, .i l, .i p, .i q]) 31)], 5⟩ [] trivial ?_
         refine en ?_
         refine an ?_
         refine xw_cond (b := (!((ldw xs ys (a + 2 + i1)) == (ldw xs ys ((ldw xs ys (a + 1)) + 2 + i1))))) (by kernel_rfl) (fun h23 => ?_) (fun h23 => ?_)
         ·
          replace h23 : (ldw xs ys (a + 2 + i1)) ≠ (ldw xs ys ((ldw xs ys (a + 1)) + 2 + i1)) := by first | (simp; done) | simpa using h23 | (simp at h23; omega)
          refine rg [] 1 ⟨[(4, .f), (66, .i i1), (65, .i (hL xs ys a)), (11, .fn 37 [] [.p 0, .p 1, .p 2])], [(2, .cells [.u (ldw xs ys (a + 1))] 32), (1, .cells [.u a] 32), (0, .cells (mr W xs ys [.i s, .i b, .i l, .i p, .i q]) 31)], 5⟩ [] trivial ?_
          refine xw_ret ?_
          refine ib_ret ?_
          refine an_ret ?_
          refine ag_ret ?_
          refine ib_ret ?_
          refine an_ret ?_
          exact bs (.f) (Or.inr <| ⟨(by first | rfl | omega | (have hq := aF_eq (n := ((ldw xs ys a / 4294967296) % 16777216)) ‹aF W xs ys s a (ldw xs ys (a + 1)) ((ldw xs ys a / 4294967296) % 16777216) (ldw xs ys a % 4294967296) i1 = 1› (by omega); omega) | (have hq : (aF W xs ys s a (ldw xs ys (a + 1)) ((ldw xs ys a / 4294967296) % 16777216) (ldw xs ys a % 4294967296) ((ldw xs ys a / 4294967296) % 16777216)) = 0 := aF_no (i := i1) (by omega) (by omega) (fF_p0 (by first | exact .inl ‹_› | exact .inr (.inl (by omega)) | exact .inr (.inr (by omega))) (by omega)); omega) | (have hq : (aF W xs ys s a (ldw xs ys (a + 1)) ((ldw xs ys a / 4294967296) % 16777216) (ldw xs ys a % 4294967296) ((ldw xs ys a / 4294967296) % 16777216)) = 0 := aF_no (i := i1) (by omega) (by omega) (fF_o0 ‹_› (by omega) (by omega) (by omega) (by omega)); omega) | (have hq : (aF W xs ys s a (ldw xs ys (a + 1)) ((ldw xs ys a / 4294967296) % 16777216) (ldw xs ys a % 4294967296) ((ldw xs ys a / 4294967296) % 16777216)) = 0 := aF_no (i := i1) (by omega) (by omega) (fF_t0 ‹_› (by omega) (by omega) (by omega) (by omega) (by omega) (by omega)); omega) | (have hq : (aF W xs ys s a (ldw xs ys (a + 1)) ((ldw xs ys a / 4294967296) % 16777216) (ldw xs ys a % 4294967296) ((ldw xs ys a / 4294967296) % 16777216)) = 0 := aF_no (i := i1) (by omega) (by omega) (fF_n0 ‹_› (by omega) (by omega) (by omega) (by omega)); omega)), rfl⟩)
         ·
          replace h23 : (ldw xs ys (a + 2 + i1)) = (ldw xs ys ((ldw xs ys (a + 1)) + 2 + i1)) := by first | (simp; done) | simpa using h23
          refine xw_skip ?_
          refine ib ?_
          refine an ?_
          refine re [(0, .i (i1 + 1))] 2 ⟨[(66, .i (i1 + 1)), (65, .i (hL xs ys a)), (11, .fn 37 [] [.p 0, .p 1, .p 2]), (4, .f)], [(2, .cells [.u (ldw xs ys (a + 1))] 32), (1, .cells [.u a] 32), (0, .cells (mr W xs ys [.i s, .i b, .i l, .i p, .i q]) 31)], 5⟩ [IntKind.i64.wrap (i1 + 1) = (i1 + 1)] ⟨i64_eq (by omega) (by omega), trivial⟩ ?_
          exact ag ⟨(i1 + 1), ⟨(by omega), (by omega), (by first | exact aF_0 rfl | exact aF_next (i := i1) ‹_› (by omega) (fF_p (by first | exact .inl ‹_› | exact .inr (.inl (by omega)) | exact .inr (.inr (by omega))) (by omega)) rfl | exact aF_next (i := i1) ‹_› (by omega) (fF_o (by omega) (by omega)) rfl | exact aF_next (i := i1) ‹_› (by omega) (fF_t ‹_› (by omega) (by omega) (by omega) (by omega) (by omega) (by omega)) rfl)⟩⟩ (le_of [] [((i1 + 1) : Int) = (i1 + 1), (((ldw xs ys a / 4294967296) % 16777216) : Int) = ((ldw xs ys a / 4294967296) % 16777216), false = false, ((ldw xs ys (a + 1)) : Int) = (ldw xs ys (a + 1)), (a : Int) = a, (W : Int) = W, (false = true → false = true), ((m64 xs) : List SV) = (m64 xs), (false = true → false = true), ((m64 ys) : List SV) = (m64 ys), (s : Int) = s, (b : Int) = b, (l : Int) = l, (p : Int) = p, (q : Int) = q] (by kernel_rfl) ⟨rfl, rfl, rfl, rfl, rfl, rfl, id, rfl, id, rfl, rfl, rfl, rfl, rfl, rfl, trivial⟩) (by show (((ldw xs ys a / 4294967296) % 16777216) - (i1 + 1)).toNat < (((ldw xs ys a / 4294967296) % 16777216) - i1).toNat; omega)
        ·
         replace h22 : isPtr ((ldw xs ys a / 4294967296) % 16777216) (ldw xs ys a % 4294967296) i1 = true := by first | (simp; done) | simpa using h22
         refine rk [(8, .bool ((ldw xs ys (a + 2 + i1)) == 0))] 4 7 ⟨[(42, .bool ((ldw xs ys (a + 2 + i1)) == 0)), (9, .u (ldw xs ys ((ldw xs ys (a + 1)) + 2 + i1))), (8, .i 0), (6, .u (ldw xs ys (a + 2 + i1))), (5, .f), (1, .p 0)], [(2, .cells [.u (ldw xs ys (a + 1))] 32), (1, .cells [.u a] 32), (0, .cells (mr W xs ys [.i s, .i b, .i l, .i p, .i q]) 31)], 5⟩ [((ldw xs ys (a + 2 + i1)) == 0) = ((ldw xs ys (a + 2 + i1)) == 0), True] ⟨rfl, trivial, trivial⟩ ?_
         refine splitr 42 (x := ((ldw xs ys (a + 2 + i1)) == 0)) (by kernel_rfl) (fun h23 => ?_) (fun h23 => ?_)
         ·
          replace h23 : (ldw xs ys (a + 2 + i1)) = 0 := eq_of_beq h23
          refine rk [] 3 11 ⟨[(45, .t), (9, .u (ldw xs ys ((ldw xs ys (a + 1)) + 2 + i1))), (8, .i 0), (6, .u (ldw xs ys (a + 2 + i1))), (5, .f), (1, .p 0)], [(2, .cells [.u (ldw xs ys (a + 1))] 32), (1, .cells [.u a] 32), (0, .cells (mr W xs ys [.i s, .i b, .i l, .i p, .i q]) 31)], 5⟩ [True] ⟨trivial, trivial⟩ ?_
          refine en ?_
          refine an ?_
          refine ct ?_
          refine rg [(1, .t), (5, .bool ((ldw xs ys (a + 2 + i1)) == (ldw xs ys ((ldw xs ys (a + 1)) + 2 + i1))))] 8 ⟨[(5, .bool ((ldw xs ys (a + 2 + i1)) == (ldw xs ys ((ldw xs ys (a + 1)) + 2 + i1)))), (9, .u (ldw xs ys ((ldw xs ys (a + 1)) + 2 + i1))), (6, .u (ldw xs ys (a + 2 + i1))), (1, .p 0)], [(2, .cells [.u (ldw xs ys (a + 1))] 32), (1, .cells [.u a] 32), (0, .cells (mr W xs ys [.i s, .i b, .i l, .i p, .i q]) 31)], 5⟩ [(0 == 0) = true, ((ldw xs ys (a + 2 + i1)) == (ldw xs ys ((ldw xs ys (a + 1)) + 2 + i1))) = ((ldw xs ys (a + 2 + i1)) == (ldw xs ys ((ldw xs ys (a + 1)) + 2 + i1))), True] ⟨beq_iff_eq.2 (by omega), rfl, trivial, trivial⟩ ?_
          refine xw_ret ?_
          refine an_ret ?_
          refine ⟨.bool ((ldw xs ys (a + 2 + i1)) == (ldw xs ys ((ldw xs ys (a + 1)) + 2 + i1))), by kernel_rfl, ?_⟩
          show XOi _ _ _ _ _ _ ⟨[(71, .bool ((ldw xs ys (a + 2 + i1)) == (ldw xs ys ((ldw xs ys (a + 1)) + 2 + i1)))), (70, .int .i64 i1), (69, .fn 37 [] [.loc 0 0, .loc 1 0, .loc 2 0]), (66, .int .i64 i1), (65, .int .i64 ((ldw xs ys a / 4294967296) % 16777216)), (11, .fn 37 [] [.loc 0 0, .loc 1 0, .loc 2 0]), (4, .bool false)], [(2, .cells [.int .u64 (ldw xs ys (a + 1))] 32), (1, .cells [.int .u64 a] 32), (0, .cells (mr W xs ys [.int .i64 s, .int .i64 b, .int .i64 l, .int .i64 p, .int .i64 q]) 31)], 5⟩
          refine rk [] 1 3 ⟨[(72, .bool (!((ldw xs ys (a + 2 + i1)) == (ldw xs ys ((ldw xs ys (a + 1)) + 2 + i1))))), (66, .i i1), (65, .i (hL xs ys a)), (11, .fn 37 [] [.p 0, .p 1, .p 2]), (4, .f)], [(2, .cells [.u (ldw xs ys (a + 1))] 32), (1, .cells [.u a] 32), (0, .cells (mr W xs ys [.i s, .i b, .i l, .i p, .i q]) 31)], 5⟩ [] trivial ?_
          refine en ?_
          refine an ?_
          refine xw_cond (b := (!((ldw xs ys (a + 2 + i1)) == (ldw xs ys ((ldw xs ys (a + 1)) + 2 + i1))))) (by kernel_rfl) (fun h24 => ?_) (fun h24 => ?_)
          ·
           replace h24 : (ldw xs ys (a + 2 + i1)) ≠ (ldw xs ys ((ldw xs ys (a + 1)) + 2 + i1)) := by first | (simp; done) | simpa using h24 | (simp at h24; omega)
           refine rg [] 1 ⟨[(4, .f), (66, .i i1), (65, .i (hL xs ys a)), (11, .fn 37 [] [.p 0, .p 1, .p 2])], [(2, .cells [.u (ldw xs ys (a + 1))] 32), (1, .cells [.u a] 32), (0, .cells (mr W xs ys [.i s, .i b, .i l, .i p, .i q]) 31)], 5⟩ [] trivial ?_
           refine xw_ret ?_
           refine ib_ret ?_
           refine an_ret ?_
           refine ag_ret ?_
           refine ib_ret ?_
           refine an_ret ?_
           exact bs (.f) (Or.inr <| ⟨(by first | rfl | omega | (have hq := aF_eq (n := ((ldw xs ys a / 4294967296) % 16777216)) ‹aF W xs ys s a (ldw xs ys (a + 1)) ((ldw xs ys a / 4294967296) % 16777216) (ldw xs ys a % 4294967296) i1 = 1› (by omega); omega) | (have hq : (aF W xs ys s a (ldw xs ys (a + 1)) ((ldw xs ys a / 4294967296) % 16777216) (ldw xs ys a % 4294967296) ((ldw xs ys a / 4294967296) % 16777216)) = 0 := aF_no (i := i1) (by omega) (by omega) (fF_p0 (by first | exact .inl ‹_› | exact .inr (.inl (by omega)) | exact .inr (.inr (by omega))) (by omega)); omega) | (have hq : (aF W xs ys s a (ldw xs ys (a + 1)) ((ldw xs ys a / 4294967296) % 16777216) (ldw xs ys a % 4294967296) ((ldw xs ys a / 4294967296) % 16777216)) = 0 := aF_no (i := i1) (by omega) (by omega) (fF_o0 ‹_› (by omega) (by omega) (by omega) (by omega)); omega) | (have hq : (aF W xs ys s a (ldw xs ys (a + 1)) ((ldw xs ys a / 4294967296) % 16777216) (ldw xs ys a % 4294967296) ((ldw xs ys a / 4294967296) % 16777216)) = 0 := aF_no (i := i1) (by omega) (by omega) (fF_t0 ‹_› (by omega) (by omega) (by omega) (by omega) (by omega) (by omega)); omega) | (have hq : (aF W xs ys s a (ldw xs ys (a + 1)) ((ldw xs ys a / 4294967296) % 16777216) (ldw xs ys a % 4294967296) ((ldw xs ys a / 4294967296) % 16777216)) = 0 := aF_no (i := i1) (by omega) (by omega) (fF_n0 ‹_› (by omega) (by omega) (by omega) (by omega)); omega)), rfl⟩)
          ·
           replace h24 : (ldw xs ys (a + 2 + i1)) = (ldw xs ys ((ldw xs ys (a + 1)) + 2 + i1)) := by first | (simp; done) | simpa using h24
           refine xw_skip ?_
           refine ib ?_
           refine an ?_
           refine re [(0, .i (i1 + 1))] 2 ⟨[(66, .i (i1 + 1)), (65, .i (hL xs ys a)), (11, .fn 37 [] [.p 0, .p 1, .p 2]), (4, .f)], [(2, .cells [.u (ldw xs ys (a + 1))] 32), (1, .cells [.u a] 32), (0, .cells (mr W xs ys [.i s, .i b, .i l, .i p, .i q]) 31)], 5⟩ [IntKind.i64.wrap (i1 + 1) = (i1 + 1)] ⟨i64_eq (by omega) (by omega), trivial⟩ ?_
           exact ag ⟨(i1 + 1), ⟨(by omega), (by omega), (by first | exact aF_0 rfl | exact aF_next (i := i1) ‹_› (by omega) (fF_p (by first | exact .inl ‹_› | exact .inr (.inl (by omega)) | exact .inr (.inr (by omega))) (by omega)) rfl | exact aF_next (i := i1) ‹_› (by omega) (fF_o (by omega) (by omega)) rfl | exact aF_next (i := i1) ‹_› (by omega) (fF_t ‹_› (by omega) (by omega) (by omega) (by omega) (by omega) (by omega)) rfl)⟩⟩ (le_of [] [((i1 + 1) : Int) = (i1 + 1), (((ldw xs ys a / 4294967296) % 16777216) : Int) = ((ldw xs ys a / 4294967296) % 16777216), false = false, ((ldw xs ys (a + 1)) : Int) = (ldw xs ys (a + 1)), (a : Int) = a, (W : Int) = W, (false = true → false = true), ((m64 xs) : List SV) = (m64 xs), (false = true → false = true), ((m64 ys) : List SV) = (m64 ys), (s : Int) = s, (b : Int) = b, (l : Int) = l, (p : Int) = p, (q : Int) = q] (by kernel_rfl) ⟨rfl, rfl, rfl, rfl, rfl, rfl, id, rfl, id, rfl, rfl, rfl, rfl, rfl, rfl, trivial⟩) (by show (((ldw xs ys a / 4294967296) % 16777216) - (i1 + 1)).toNat < (((ldw xs ys a / 4294967296) % 16777216) - i1).toNat; omega)
         ·
          replace h23 : (ldw xs ys (a + 2 + i1)) ≠ 0 := ne_of_beq_false h23
          refine rk [(12, .bool ((ldw xs ys ((ldw xs ys (a + 1)) + 2 + i1)) == 0))] 3 11 ⟨[(45, .bool ((ldw xs ys ((ldw xs ys (a + 1)) + 2 + i1)) == 0)), (9, .u (ldw xs ys ((ldw xs ys (a + 1)) + 2 + i1))), (8, .i 0), (6, .u (ldw xs ys (a + 2 + i1))), (5, .f), (1, .p 0)], [(2, .cells [.u (ldw xs ys (a + 1))] 32), (1, .cells [.u a] 32), (0, .cells (mr W xs ys [.i s, .i b, .i l, .i p, .i q]) 31)], 5⟩ [((ldw xs ys ((ldw xs ys (a + 1)) + 2 + i1)) == 0) = ((ldw xs ys ((ldw xs ys (a + 1)) + 2 + i1)) == 0), True] ⟨rfl, trivial, trivial⟩ ?_
          refine en ?_
          refine an ?_
          refine xw_cond (b := ((ldw xs ys ((ldw xs ys (a + 1)) + 2 + i1)) == 0)) (by kernel_rfl) (fun h24 => ?_) (fun h24 => ?_)
          ·
           replace h24 : (ldw xs ys ((ldw xs ys (a + 1)) + 2 + i1)) = 0 := eq_of_beq h24
           refine rg [(1, .t), (5, .f)] 8 ⟨[(5, .f), (9, .u (ldw xs ys ((ldw xs ys (a + 1)) + 2 + i1))), (6, .u (ldw xs ys (a + 2 + i1))), (1, .p 0)], [(2, .cells [.u (ldw xs ys (a + 1))] 32), (1, .cells [.u a] 32), (0, .cells (mr W xs ys [.i s, .i b, .i l, .i p, .i q]) 31)], 5⟩ [(0 == 0) = true, ((ldw xs ys (a + 2 + i1)) == (ldw xs ys ((ldw xs ys (a + 1)) + 2 + i1))) = false, True] ⟨beq_iff_eq.2 (by omega), beq_eq_false_iff_ne.2 (by omega), trivial, trivial⟩ ?_
           refine xw_ret ?_
           refine an_ret ?_
           refine ⟨.f, by kernel_rfl, ?_⟩
           show XOi _ _ _ _ _ _ ⟨[(71, .bool false), (70, .int .i64 i1), (69, .fn 37 [] [.loc 0 0, .loc 1 0, .loc 2 0]), (66, .int .i64 i1), (65, .int .i64 ((ldw xs ys a / 4294967296) % 16777216)), (11, .fn 37 [] [.loc 0 0, .loc 1 0, .loc 2 0]), (4, .bool false)], [(2, .cells [.int .u64 (ldw xs ys (a + 1))] 32), (1, .cells [.int .u64 a] 32), (0, .cells (mr W xs ys [.int .i64 s, .int .i64 b, .int .i64 l, .int .i64 p, .int .i64 q]) 31)], 5⟩
           refine rk [] 1 3 ⟨[(72, .t), (66, .i i1), (65, .i (hL xs ys a)), (11, .fn 37 [] [.p 0, .p 1, .p 2]), (4, .f)], [(2, .cells [.u (ldw xs ys (a + 1))] 32), (1, .cells [.u a] 32), (0, .cells (mr W xs ys [.i s, .i b, .i l, .i p, .i q]) 31)], 5⟩ [] trivial ?_
           refine en ?_
           refine an ?_
           refine ct ?_
           refine rg [] 1 ⟨[(4, .f), (66, .i i1), (65, .i (hL xs ys a)), (11, .fn 37 [] [.p 0, .p 1, .p 2])], [(2, .cells [.u (ldw xs ys (a + 1))] 32), (1, .cells [.u a] 32), (0, .cells (mr W xs ys [.i s, .i b, .i l, .i p, .i q]) 31)], 5⟩ [] trivial ?_
           refine xw_ret ?_
           refine ib_ret ?_
           refine an_ret ?_
           refine ag_ret ?_
           refine ib_ret ?_
           refine an_ret ?_
           exact bs (.f) (Or.inr <| ⟨(by first | rfl | omega | (have hq := aF_eq (n := ((ldw xs ys a / 4294967296) % 16777216)) ‹aF W xs ys s a (ldw xs ys (a + 1)) ((ldw xs ys a / 4294967296) % 16777216) (ldw xs ys a % 4294967296) i1 = 1› (by omega); omega) | (have hq : (aF W xs ys s a (ldw xs ys (a + 1)) ((ldw xs ys a / 4294967296) % 16777216) (ldw xs ys a % 4294967296) ((ldw xs ys a / 4294967296) % 16777216)) = 0 := aF_no (i := i1) (by omega) (by omega) (fF_p0 (by first | exact .inl ‹_› | exact .inr (.inl (by omega)) | exact .inr (.inr (by omega))) (by omega)); omega) | (have hq : (aF W xs ys s a (ldw xs ys (a + 1)) ((ldw xs ys a / 4294967296) % 16777216) (ldw xs ys a % 4294967296) ((ldw xs ys a / 4294967296) % 16777216)) = 0 := aF_no (i := i1) (by omega) (by omega) (fF_o0 ‹_› (by omega) (by omega) (by omega) (by omega)); omega) | (have hq : (aF W xs ys s a (ldw xs ys (a + 1)) ((ldw xs ys a / 4294967296) % 16777216) (ldw xs ys a % 4294967296) ((ldw xs ys a / 4294967296) % 16777216)) = 0 := aF_no (i := i1) (by omega) (by omega) (fF_t0 ‹_› (by omega) (by omega) (by omega) (by omega) (by omega) (by omega)); omega) | (have hq : (aF W xs ys s a (ldw xs ys (a + 1)) ((ldw xs ys a / 4294967296) % 16777216) (ldw xs ys a % 4294967296) ((ldw xs ys a / 4294967296) % 16777216)) = 0 := aF_no (i := i1) (by omega) (by omega) (fF_n0 ‹_› (by omega) (by omega) (by omega) (by omega)); omega)), rfl⟩)
          ·
           replace h24 : (ldw xs ys ((ldw xs ys (a + 1)) + 2 + i1)) ≠ 0 := ne_of_beq_false h24
           refine xw_skip ?_
           refine an ?_
           refine xw_seq ?_
           refine reg ?_
           refine rk [] 3 0 ⟨[(56, .u (ldw xs ys (a + 2 + i1))), (55, .agg (mm W xs ys)), (9, .u (ldw xs ys ((ldw xs ys (a + 1)) + 2 + i1))), (6, .u (ldw xs ys (a + 2 + i1))), (5, .f), (1, .p 0)], [(2, .cells [.u (ldw xs ys (a + 1))] 32), (1, .cells [.u a] 32), (0, .cells (mr W xs ys [.i s, .i b, .i l, .i p, .i q]) 31)], 5⟩ [True] ⟨trivial, trivial⟩ ?_
           by_cases h25 : ((oErr W xs ys (ldw xs ys (a + 2 + i1))) = 0) ∧ ((ldw xs ys (ldw xs ys (a + 2 + i1)) / 72057594037927936) ≠ 255)
           ·
            refine pc (otwin_1 W xs ys (ldw xs ys (a + 2 + i1)) ‹_› ‹_› ‹_› ‹_› ‹_› ‹_› (by omega) (by omega)) ?_
            obtain ⟨h26, h27, h28⟩ := oErr_ok W xs ys (ldw xs ys (a + 2 + i1)) (by omega)
            have h29 : 0 ≤ (ldw xs ys ((ldw xs ys (a + 2 + i1)) + 1)) ∧ (ldw xs ys ((ldw xs ys (a + 2 + i1)) + 1)) ≤ 18446744073709551615 := ldw_ok xs ys ((ldw xs ys (a + 2 + i1)) + 1) ‹_› ‹_›
            have h30 : 1 ≤ ((ldw xs ys (a + 2 + i1)) + 1) / 4294967296 ∧ ((ldw xs ys (a + 2 + i1)) + 1) / 4294967296 ≤ 2 ∧ ((ldw xs ys (a + 2 + i1)) + 1) % 4294967296 < W := by omega
            refine rk [] 5 4 ⟨[(12, .u (ldw xs ys ((ldw xs ys (a + 2 + i1)) + 1))), (9, .u (ldw xs ys ((ldw xs ys (a + 1)) + 2 + i1))), (6, .u (ldw xs ys (a + 2 + i1))), (5, .f), (1, .p 0)], [(2, .cells [.u (ldw xs ys (a + 1))] 32), (1, .cells [.u a] 32), (0, .cells (mr W xs ys [.i s, .i b, .i l, .i p, .i q]) 31)], 5⟩ [] trivial ?_
            refine en ?_
            refine an ?_
            refine xw_seq ?_
            refine reg ?_
            refine rk [] 2 0 ⟨[(61, .u (ldw xs ys (a + 2 + i1))), (60, .agg (mr W xs ys [.i s, .i b, .i l, .i p, .i q])), (12, .u (ldw xs ys ((ldw xs ys (a + 2 + i1)) + 1))), (9, .u (ldw xs ys ((ldw xs ys (a + 1)) + 2 + i1))), (6, .u (ldw xs ys (a + 2 + i1))), (5, .f), (1, .p 0)], [(2, .cells [.u (ldw xs ys (a + 1))] 32), (1, .cells [.u a] 32), (0, .cells (mr W xs ys [.i s, .i b, .i l, .i p, .i q]) 31)], 5⟩ [True] ⟨trivial, trivial⟩ ?_
            by_cases h31 : 1 ≤ (ldw xs ys (a + 2 + i1)) / 4294967296 ∧ (ldw xs ys (a + 2 + i1)) / 4294967296 ≤ 2 ∧ (ldw xs ys (a + 2 + i1)) / 4294967296 - 1 = s
            ·
             refine pc (rpover_1 W xs ys s b l p q (ldw xs ys (a + 2 + i1)) ‹_› ‹_› ‹_› ‹_› ‹_› ‹_› ‹_› ‹_› ‹_› (by omega)) ?_
             refine rk [(6, .bool ((ldw xs ys (a + 2 + i1)) == (ldw xs ys ((ldw xs ys (a + 1)) + 2 + i1))))] 6 3 ⟨[(68, .bool ((ldw xs ys (a + 2 + i1)) == (ldw xs ys ((ldw xs ys (a + 1)) + 2 + i1)))), (12, .u (ldw xs ys ((ldw xs ys (a + 2 + i1)) + 1))), (9, .u (ldw xs ys ((ldw xs ys (a + 1)) + 2 + i1))), (6, .u (ldw xs ys (a + 2 + i1))), (5, .f), (1, .p 0)], [(2, .cells [.u (ldw xs ys (a + 1))] 32), (1, .cells [.u a] 32), (0, .cells (mr W xs ys [.i s, .i b, .i l, .i p, .i q]) 31)], 5⟩ [((ldw xs ys (a + 2 + i1)) == (ldw xs ys ((ldw xs ys (a + 1)) + 2 + i1))) = ((ldw xs ys (a + 2 + i1)) == (ldw xs ys ((ldw xs ys (a + 1)) + 2 + i1))), True] ⟨rfl, trivial, trivial⟩ ?_
             refine splitr 68 (x := ((ldw xs ys (a + 2 + i1)) == (ldw xs ys ((ldw xs ys (a + 1)) + 2 + i1)))) (by kernel_rfl) (fun h32 => ?_) (fun h32 => ?_)
             ·
              replace h32 : (ldw xs ys (a + 2 + i1)) = (ldw xs ys ((ldw xs ys (a + 1)) + 2 + i1)) := eq_of_beq h32
              refine rk [] 11 9 ⟨[(5, .t)], [(2, .cells [.u (ldw xs ys (a + 1))] 32), (1, .cells [.u a] 32), (0, .cells (mr W xs ys [.i s, .i b, .i l, .i p, .i q]) 31)], 5⟩ [True] ⟨trivial, trivial⟩ ?_
              refine en ?_
              refine an ?_
              refine xw_ret ?_
              refine ⟨.t, by kernel_rfl, ?_⟩
              show XOi _ _ _ _ _ _ ⟨[(71, .bool true), (70, .int .i64 i1), (69, .fn 37 [] [.loc 0 0, .loc 1 0, .loc 2 0]), (66, .int .i64 i1), (65, .int .i64 ((ldw xs ys a / 4294967296) % 16777216)), (11, .fn 37 [] [.loc 0 0, .loc 1 0, .loc 2 0]), (4, .bool false)], [(2, .cells [.int .u64 (ldw xs ys (a + 1))] 32), (1, .cells [.int .u64 a] 32), (0, .cells (mr W xs ys [.int .i64 s, .int .i64 b, .int .i64 l, .int .i64 p, .int .i64 q]) 31)], 5⟩
              refine rk [] 1 3 ⟨[(72, .f), (66, .i i1), (65, .i (hL xs ys a)), (11, .fn 37 [] [.p 0, .p 1, .p 2]), (4, .f)], [(2, .cells [.u (ldw xs ys (a + 1))] 32), (1, .cells [.u a] 32), (0, .cells (mr W xs ys [.i s, .i b, .i l, .i p, .i q]) 31)], 5⟩ [] trivial ?_
              refine en ?_
              refine an ?_
              refine cf ?_
              refine xw_skip ?_
              refine ib ?_
              refine an ?_
              refine re [(0, .i (i1 + 1))] 2 ⟨[(66, .i (i1 + 1)), (65, .i (hL xs ys a)), (11, .fn 37 [] [.p 0, .p 1, .p 2]), (4, .f)], [(2, .cells [.u (ldw xs ys (a + 1))] 32), (1, .cells [.u a] 32), (0, .cells (mr W xs ys [.i s, .i b, .i l, .i p, .i q]) 31)], 5⟩ [IntKind.i64.wrap (i1 + 1) = (i1 + 1)] ⟨i64_eq (by omega) (by omega), trivial⟩ ?_
              exact ag ⟨(i1 + 1), ⟨(by omega), (by omega), (by first | exact aF_0 rfl | exact aF_next (i := i1) ‹_› (by omega) (fF_p (by first | exact .inl ‹_› | exact .inr (.inl (by omega)) | exact .inr (.inr (by omega))) (by omega)) rfl | exact aF_next (i := i1) ‹_› (by omega) (fF_o (by omega) (by omega)) rfl | exact aF_next (i := i1) ‹_› (by omega) (fF_t ‹_› (by omega) (by omega) (by omega) (by omega) (by omega) (by omega)) rfl)⟩⟩ (le_of [] [((i1 + 1) : Int) = (i1 + 1), (((ldw xs ys a / 4294967296) % 16777216) : Int) = ((ldw xs ys a / 4294967296) % 16777216), false = false, ((ldw xs ys (a + 1)) : Int) = (ldw xs ys (a + 1)), (a : Int) = a, (W : Int) = W, (false = true → false = true), ((m64 xs) : List SV) = (m64 xs), (false = true → false = true), ((m64 ys) : List SV) = (m64 ys), (s : Int) = s, (b : Int) = b, (l : Int) = l, (p : Int) = p, (q : Int) = q] (by kernel_rfl) ⟨rfl, rfl, rfl, rfl, rfl, rfl, id, rfl, id, rfl, rfl, rfl, rfl, rfl, rfl, trivial⟩) (by show (((ldw xs ys a / 4294967296) % 16777216) - (i1 + 1)).toNat < (((ldw xs ys a / 4294967296) % 16777216) - i1).toNat; omega)
             ·
              replace h32 : (ldw xs ys (a + 2 + i1)) ≠ (ldw xs ys ((ldw xs ys (a + 1)) + 2 + i1)) := ne_of_beq_false h32
              refine rk [] 2 9 ⟨[(70, .u (ldw xs ys (a + 2 + i1))), (69, .agg (mr W xs ys [.i s, .i b, .i l, .i p, .i q])), (68, .f), (12, .u (ldw xs ys ((ldw xs ys (a + 2 + i1)) + 1))), (9, .u (ldw xs ys ((ldw xs ys (a + 1)) + 2 + i1))), (5, .f)], [(2, .cells [.u (ldw xs ys (a + 1))] 32), (1, .cells [.u a] 32), (0, .cells (mr W xs ys [.i s, .i b, .i l, .i p, .i q]) 31)], 5⟩ [True] ⟨trivial, trivial⟩ ?_
              refine pc (rpover_1 W xs ys s b l p q (ldw xs ys (a + 2 + i1)) ‹_› ‹_› ‹_› ‹_› ‹_› ‹_› ‹_› ‹_› ‹_› (by omega)) ?_
              refine rk [] 8 12 ⟨[(5, .f)], [(2, .cells [.u (ldw xs ys (a + 1))] 32), (1, .cells [.u a] 32), (0, .cells (mr W xs ys [.i s, .i b, .i l, .i p, .i q]) 31)], 5⟩ [True, True] ⟨trivial, trivial, trivial⟩ ?_
              refine en ?_
              refine an ?_
              refine xw_ret ?_
              refine ⟨.f, by kernel_rfl, ?_⟩
              show XOi _ _ _ _ _ _ ⟨[(71, .bool false), (70, .int .i64 i1), (69, .fn 37 [] [.loc 0 0, .loc 1 0, .loc 2 0]), (66, .int .i64 i1), (65, .int .i64 ((ldw xs ys a / 4294967296) % 16777216)), (11, .fn 37 [] [.loc 0 0, .loc 1 0, .loc 2 0]), (4, .bool false)], [(2, .cells [.int .u64 (ldw xs ys (a + 1))] 32), (1, .cells [.int .u64 a] 32), (0, .cells (mr W xs ys [.int .i64 s, .int .i64 b, .int .i64 l, .int .i64 p, .int .i64 q]) 31)], 5⟩
              refine rk [] 1 3 ⟨[(72, .t), (66, .i i1), (65, .i (hL xs ys a)), (11, .fn 37 [] [.p 0, .p 1, .p 2]), (4, .f)], [(2, .cells [.u (ldw xs ys (a + 1))] 32), (1, .cells [.u a] 32), (0, .cells (mr W xs ys [.i s, .i b, .i l, .i p, .i q]) 31)], 5⟩ [] trivial ?_
              refine en ?_
              refine an ?_
              refine ct ?_
              refine rg [] 1 ⟨[(4, .f), (66, .i i1), (65, .i (hL xs ys a)), (11, .fn 37 [] [.p 0, .p 1, .p 2])], [(2, .cells [.u (ldw xs ys (a + 1))] 32), (1, .cells [.u a] 32), (0, .cells (mr W xs ys [.i s, .i b, .i l, .i p, .i q]) 31)], 5⟩ [] trivial ?_
              refine xw_ret ?_
              refine ib_ret ?_
              refine an_ret ?_
              refine ag_ret ?_
              refine ib_ret ?_
              refine an_ret ?_
              exact bs (.f) (Or.inr <| ⟨(by first | rfl | omega | (have hq := aF_eq (n := ((ldw xs ys a / 4294967296) % 16777216)) ‹aF W xs ys s a (ldw xs ys (a + 1)) ((ldw xs ys a / 4294967296) % 16777216) (ldw xs ys a % 4294967296) i1 = 1› (by omega); omega) | (have hq : (aF W xs ys s a (ldw xs ys (a + 1)) ((ldw xs ys a / 4294967296) % 16777216) (ldw xs ys a % 4294967296) ((ldw xs ys a / 4294967296) % 16777216)) = 0 := aF_no (i := i1) (by omega) (by omega) (fF_p0 (by first | exact .inl ‹_› | exact .inr (.inl (by omega)) | exact .inr (.inr (by omega))) (by omega)); omega) | (have hq : (aF W xs ys s a (ldw xs ys (a + 1)) ((ldw xs ys a / 4294967296) % 16777216) (ldw xs ys a % 4294967296) ((ldw xs ys a / 4294967296) % 16777216)) = 0 := aF_no (i := i1) (by omega) (by omega) (fF_o0 ‹_› (by omega) (by omega) (by omega) (by omega)); omega) | (have hq : (aF W xs ys s a (ldw xs ys (a + 1)) ((ldw xs ys a / 4294967296) % 16777216) (ldw xs ys a % 4294967296) ((ldw xs ys a / 4294967296) % 16777216)) = 0 := aF_no (i := i1) (by omega) (by omega) (fF_t0 ‹_› (by omega) (by omega) (by omega) (by omega) (by omega) (by omega)); omega) | (have hq : (aF W xs ys s a (ldw xs ys (a + 1)) ((ldw xs ys a / 4294967296) % 16777216) (ldw xs ys a % 4294967296) ((ldw xs ys a / 4294967296) % 16777216)) = 0 := aF_no (i := i1) (by omega) (by omega) (fF_n0 ‹_› (by omega) (by omega) (by omega) (by omega)); omega)), rfl⟩)
            ·
             refine pc (rpover_2 W xs ys s b l p q (ldw xs ys (a + 2 + i1)) ‹_› ‹_› ‹_› ‹_› ‹_› ‹_› ‹_› ‹_› ‹_› (by omega)) ?_
             refine rk [] 8 3 ⟨[(70, .u (ldw xs ys (a + 2 + i1))), (69, .agg (mr W xs ys [.i s, .i b, .i l, .i p, .i q])), (68, .f), (12, .u (ldw xs ys ((ldw xs ys (a + 2 + i1)) + 1))), (9, .u (ldw xs ys ((ldw xs ys (a + 1)) + 2 + i1))), (5, .f)], [(2, .cells [.u (ldw xs ys (a + 1))] 32), (1, .cells [.u a] 32), (0, .cells (mr W xs ys [.i s, .i b, .i l, .i p, .i q]) 31)], 5⟩ [True, True] ⟨trivial, trivial, trivial⟩ ?_
             refine pc (rpover_2 W xs ys s b l p q (ldw xs ys (a + 2 + i1)) ‹_› ‹_› ‹_› ‹_› ‹_› ‹_› ‹_› ‹_› ‹_› (by omega)) ?_
             refine rk [(16, .bool ((ldw xs ys ((ldw xs ys (a + 2 + i1)) + 1)) == (ldw xs ys ((ldw xs ys (a + 1)) + 2 + i1))))] 8 12 ⟨[(5, .bool ((ldw xs ys ((ldw xs ys (a + 2 + i1)) + 1)) == (ldw xs ys ((ldw xs ys (a + 1)) + 2 + i1))))], [(2, .cells [.u (ldw xs ys (a + 1))] 32), (1, .cells [.u a] 32), (0, .cells (mr W xs ys [.i s, .i b, .i l, .i p, .i q]) 31)], 5⟩ [((ldw xs ys ((ldw xs ys (a + 2 + i1)) + 1)) == (ldw xs ys ((ldw xs ys (a + 1)) + 2 + i1))) = ((ldw xs ys ((ldw xs ys (a + 2 + i1)) + 1)) == (ldw xs ys ((ldw xs ys (a + 1)) + 2 + i1))), True, True] ⟨rfl, trivial, trivial, trivial⟩ ?_
             refine en ?_
             refine an ?_
             refine xw_ret ?_
             refine ⟨.bool ((ldw xs ys ((ldw xs ys (a + 2 + i1)) + 1)) == (ldw xs ys ((ldw xs ys (a + 1)) + 2 + i1))), by kernel_rfl, ?_⟩
             show XOi _ _ _ _ _ _ ⟨[(71, .bool ((ldw xs ys ((ldw xs ys (a + 2 + i1)) + 1)) == (ldw xs ys ((ldw xs ys (a + 1)) + 2 + i1)))), (70, .int .i64 i1), (69, .fn 37 [] [.loc 0 0, .loc 1 0, .loc 2 0]), (66, .int .i64 i1), (65, .int .i64 ((ldw xs ys a / 4294967296) % 16777216)), (11, .fn 37 [] [.loc 0 0, .loc 1 0, .loc 2 0]), (4, .bool false)], [(2, .cells [.int .u64 (ldw xs ys (a + 1))] 32), (1, .cells [.int .u64 a] 32), (0, .cells (mr W xs ys [.int .i64 s, .int .i64 b, .int .i64 l, .int .i64 p, .int .i64 q]) 31)], 5⟩
             refine rk [] 1 3 ⟨[(72, .bool (!((ldw xs ys ((ldw xs ys (a + 2 + i1)) + 1)) == (ldw xs ys ((ldw xs ys (a + 1)) + 2 + i1))))), (66, .i i1), (65, .i (hL xs ys a)), (11, .fn 37 [] [.p 0, .p 1, .p 2]), (4, .f)], [(2, .cells [.u (ldw xs ys (a + 1))] 32), (1, .cells [.u a] 32), (0, .cells (mr W xs ys [.i s, .i b, .i l, .i p, .i q]) 31)], 5⟩ [] trivial ?_
             refine en ?_
             refine an ?_
             refine xw_cond (b := (!((ldw xs ys ((ldw xs ys (a + 2 + i1)) + 1)) == (ldw xs ys ((ldw xs ys (a + 1)) + 2 + i1))))) (by kernel_rfl) (fun h32 => ?_) (fun h32 => ?_)
             ·
              replace h32 : (ldw xs ys ((ldw xs ys (a + 2 + i1)) + 1)) ≠ (ldw xs ys ((ldw xs ys (a + 1)) + 2 + i1)) := by first | (simp; done) | simpa using h32 | (simp at h32; omega)
              refine rg [] 1 ⟨[(4, .f), (66, .i i1), (65, .i (hL xs ys a)), (11, .fn 37 [] [.p 0, .p 1, .p 2])], [(2, .cells [.u (ldw xs ys (a + 1))] 32), (1, .cells [.u a] 32), (0, .cells (mr W xs ys [.i s, .i b, .i l, .i p, .i q]) 31)], 5⟩ [] trivial ?_
              refine xw_ret ?_
              refine ib_ret ?_
              refine an_ret ?_
              refine ag_ret ?_
              refine ib_ret ?_
              refine an_ret ?_
              exact bs (.f) (Or.inr <| ⟨(by first | rfl | omega | (have hq := aF_eq (n := ((ldw xs ys a / 4294967296) % 16777216)) ‹aF W xs ys s a (ldw xs ys (a + 1)) ((ldw xs ys a / 4294967296) % 16777216) (ldw xs ys a % 4294967296) i1 = 1› (by omega); omega) | (have hq : (aF W xs ys s a (ldw xs ys (a + 1)) ((ldw xs ys a / 4294967296) % 16777216) (ldw xs ys a % 4294967296) ((ldw xs ys a / 4294967296) % 16777216)) = 0 := aF_no (i := i1) (by omega) (by omega) (fF_p0 (by first | exact .inl ‹_› | exact .inr (.inl (by omega)) | exact .inr (.inr (by omega))) (by omega)); omega) | (have hq : (aF W xs ys s a (ldw xs ys (a + 1)) ((ldw xs ys a / 4294967296) % 16777216) (ldw xs ys a % 4294967296) ((ldw xs ys a / 4294967296) % 16777216)) = 0 := aF_no (i := i1) (by omega) (by omega) (fF_o0 ‹_› (by omega) (by omega) (by omega) (by omega)); omega) | (have hq : (aF W xs ys s a (ldw xs ys (a + 1)) ((ldw xs ys a / 4294967296) % 16777216) (ldw xs ys a % 4294967296) ((ldw xs ys a / 4294967296) % 16777216)) = 0 := aF_no (i := i1) (by omega) (by omega) (fF_t0 ‹_› (by omega) (by omega) (by omega) (by omega) (by omega) (by omega)); omega) | (have hq : (aF W xs ys s a (ldw xs ys (a + 1)) ((ldw xs ys a / 4294967296) % 16777216) (ldw xs ys a % 4294967296) ((ldw xs ys a / 4294967296) % 16777216)) = 0 := aF_no (i := i1) (by omega) (by omega) (fF_n0 ‹_› (by omega) (by omega) (by omega) (by omega)); omega)), rfl⟩)
             ·
              replace h32 : (ldw xs ys ((ldw xs ys (a + 2 + i1)) + 1)) = (ldw xs ys ((ldw xs ys (a + 1)) + 2 + i1)) := by first | (simp; done) | simpa using h32
              refine xw_skip ?_
              refine ib ?_
              refine an ?_
              refine re [(0, .i (i1 + 1))] 2 ⟨[(66, .i (i1 + 1)), (65, .i (hL xs ys a)), (11, .fn 37 [] [.p 0, .p 1, .p 2]), (4, .f)], [(2, .cells [.u (ldw xs ys (a + 1))] 32), (1, .cells [.u a] 32), (0, .cells (mr W xs ys [.i s, .i b, .i l, .i p, .i q]) 31)], 5⟩ [IntKind.i64.wrap (i1 + 1) = (i1 + 1)] ⟨i64_eq (by omega) (by omega), trivial⟩ ?_
              exact ag ⟨(i1 + 1), ⟨(by omega), (by omega), (by first | exact aF_0 rfl | exact aF_next (i := i1) ‹_› (by omega) (fF_p (by first | exact .inl ‹_› | exact .inr (.inl (by omega)) | exact .inr (.inr (by omega))) (by omega)) rfl | exact aF_next (i := i1) ‹_› (by omega) (fF_o (by omega) (by omega)) rfl | exact aF_next (i := i1) ‹_› (by omega) (fF_t ‹_› (by omega) (by omega) (by omega) (by omega) (by omega) (by omega)) rfl)⟩⟩ (le_of [] [((i1 + 1) : Int) = (i1 + 1), (((ldw xs ys a / 4294967296) % 16777216) : Int) = ((ldw xs ys a / 4294967296) % 16777216), false = false, ((ldw xs ys (a + 1)) : Int) = (ldw xs ys (a + 1)), (a : Int) = a, (W : Int) = W, (false = true → false = true), ((m64 xs) : List SV) = (m64 xs), (false = true → false = true), ((m64 ys) : List SV) = (m64 ys), (s : Int) = s, (b : Int) = b, (l : Int) = l, (p : Int) = p, (q : Int) = q] (by kernel_rfl) ⟨rfl, rfl, rfl, rfl, rfl, rfl, id, rfl, id, rfl, rfl, rfl, rfl, rfl, rfl, trivial⟩) (by show (((ldw xs ys a / 4294967296) % 16777216) - (i1 + 1)).toNat < (((ldw xs ys a / 4294967296) % 16777216) - i1).toNat; omega)
           ·
            by_cases h26 : ((oErr W xs ys (ldw xs ys (a + 2 + i1))) = 0) ∧ ((ldw xs ys (ldw xs ys (a + 2 + i1)) / 72057594037927936) = 255)
            ·
             refine pc (otwin_2 W xs ys (ldw xs ys (a + 2 + i1)) ‹_› ‹_› ‹_› ‹_› ‹_› ‹_› (by omega) (by omega)) ?_
             obtain ⟨h27, h28, h29⟩ := oErr_ok W xs ys (ldw xs ys (a + 2 + i1)) (by omega)
             refine rk [] 5 4 ⟨[(12, .u 0), (9, .u (ldw xs ys ((ldw xs ys (a + 1)) + 2 + i1))), (6, .u (ldw xs ys (a + 2 + i1))), (5, .f), (1, .p 0)], [(2, .cells [.u (ldw xs ys (a + 1))] 32), (1, .cells [.u a] 32), (0, .cells (mr W xs ys [.i s, .i b, .i l, .i p, .i q]) 31)], 5⟩ [] trivial ?_
             refine en ?_
             refine an ?_
             refine xw_seq ?_
             refine reg ?_
             refine rk [] 2 0 ⟨[(61, .u (ldw xs ys (a + 2 + i1))), (60, .agg (mr W xs ys [.i s, .i b, .i l, .i p, .i q])), (12, .u 0), (9, .u (ldw xs ys ((ldw xs ys (a + 1)) + 2 + i1))), (6, .u (ldw xs ys (a + 2 + i1))), (5, .f), (1, .p 0)], [(2, .cells [.u (ldw xs ys (a + 1))] 32), (1, .cells [.u a] 32), (0, .cells (mr W xs ys [.i s, .i b, .i l, .i p, .i q]) 31)], 5⟩ [True] ⟨trivial, trivial⟩ ?_
             by_cases h30 : 1 ≤ (ldw xs ys (a + 2 + i1)) / 4294967296 ∧ (ldw xs ys (a + 2 + i1)) / 4294967296 ≤ 2 ∧ (ldw xs ys (a + 2 + i1)) / 4294967296 - 1 = s
             ·
              refine pc (rpover_1 W xs ys s b l p q (ldw xs ys (a + 2 + i1)) ‹_› ‹_› ‹_› ‹_› ‹_› ‹_› ‹_› ‹_› ‹_› (by omega)) ?_
              refine rk [(6, .bool ((ldw xs ys (a + 2 + i1)) == (ldw xs ys ((ldw xs ys (a + 1)) + 2 + i1))))] 6 3 ⟨[(68, .bool ((ldw xs ys (a + 2 + i1)) == (ldw xs ys ((ldw xs ys (a + 1)) + 2 + i1)))), (12, .u 0), (9, .u (ldw xs ys ((ldw xs ys (a + 1)) + 2 + i1))), (6, .u (ldw xs ys (a + 2 + i1))), (5, .f), (1, .p 0)], [(2, .cells [.u (ldw xs ys (a + 1))] 32), (1, .cells [.u a] 32), (0, .cells (mr W xs ys [.i s, .i b, .i l, .i p, .i q]) 31)], 5⟩ [((ldw xs ys (a + 2 + i1)) == (ldw xs ys ((ldw xs ys (a + 1)) + 2 + i1))) = ((ldw xs ys (a + 2 + i1)) == (ldw xs ys ((ldw xs ys (a + 1)) + 2 + i1))), True] ⟨rfl, trivial, trivial⟩ ?_
              refine splitr 68 (x := ((ldw xs ys (a + 2 + i1)) == (ldw xs ys ((ldw xs ys (a + 1)) + 2 + i1)))) (by kernel_rfl) (fun h31 => ?_) (fun h31 => ?_)
              ·
               replace h31 : (ldw xs ys (a + 2 + i1)) = (ldw xs ys ((ldw xs ys (a + 1)) + 2 + i1)) := eq_of_beq h31
               refine rk [] 11 9 ⟨[(5, .t)], [(2, .cells [.u (ldw xs ys (a + 1))] 32), (1, .cells [.u a] 32), (0, .cells (mr W xs ys [.i s, .i b, .i l, .i p, .i q]) 31)], 5⟩ [True] ⟨trivial, trivial⟩ ?_
               refine en ?_
               refine an ?_
               refine xw_ret ?_
               refine ⟨.t, by kernel_rfl, ?_⟩
               show XOi _ _ _ _ _ _ ⟨[(71, .bool true), (70, .int .i64 i1), (69, .fn 37 [] [.loc 0 0, .loc 1 0, .loc 2 0]), (66, .int .i64 i1), (65, .int .i64 ((ldw xs ys a / 4294967296) % 16777216)), (11, .fn 37 [] [.loc 0 0, .loc 1 0, .loc 2 0]), (4, .bool false)], [(2, .cells [.int .u64 (ldw xs ys (a + 1))] 32), (1, .cells [.int .u64 a] 32), (0, .cells (mr W xs ys [.int .i64 s, .int .i64 b, .int .i64 l, .int .i64 p, .int .i64 q]) 31)], 5⟩
               refine rk [] 1 3 ⟨[(72, .f), (66, .i i1), (65, .i (hL xs ys a)), (11, .fn 37 [] [.p 0, .p 1, .p 2]), (4, .f)], [(2, .cells [.u (ldw xs ys (a + 1))] 32), (1, .cells [.u a] 32), (0, .cells (mr W xs ys [.i s, .i b, .i l, .i p, .i q]) 31)], 5⟩ [] trivial ?_
               refine en ?_
               refine an ?_
               refine cf ?_
               refine xw_skip ?_
               refine ib ?_
               refine an ?_
               refine re [(0, .i (i1 + 1))] 2 ⟨[(66, .i (i1 + 1)), (65, .i (hL xs ys a)), (11, .fn 37 [] [.p 0, .p 1, .p 2]), (4, .f)], [(2, .cells [.u (ldw xs ys (a + 1))] 32), (1, .cells [.u a] 32), (0, .cells (mr W xs ys [.i s, .i b, .i l, .i p, .i q]) 31)], 5⟩ [IntKind.i64.wrap (i1 + 1) = (i1 + 1)] ⟨i64_eq (by omega) (by omega), trivial⟩ ?_
               exact ag ⟨(i1 + 1), ⟨(by omega), (by omega), (by first | exact aF_0 rfl | exact aF_next (i := i1) ‹_› (by omega) (fF_p (by first | exact .inl ‹_› | exact .inr (.inl (by omega)) | exact .inr (.inr (by omega))) (by omega)) rfl | exact aF_next (i := i1) ‹_› (by omega) (fF_o (by omega) (by omega)) rfl | exact aF_next (i := i1) ‹_› (by omega) (fF_t ‹_› (by omega) (by omega) (by omega) (by omega) (by omega) (by omega)) rfl)⟩⟩ (le_of [] [((i1 + 1) : Int) = (i1 + 1), (((ldw xs ys a / 4294967296) % 16777216) : Int) = ((ldw xs ys a / 4294967296) % 16777216), false = false, ((ldw xs ys (a + 1)) : Int) = (ldw xs ys (a + 1)), (a : Int) = a, (W : Int) = W, (false = true → false = true), ((m64 xs) : List SV) = (m64 xs), (false = true → false = true), ((m64 ys) : List SV) = (m64 ys), (s : Int) = s, (b : Int) = b, (l : Int) = l, (p : Int) = p, (q : Int) = q] (by kernel_rfl) ⟨rfl, rfl, rfl, rfl, rfl, rfl, id, rfl, id, rfl, rfl, rfl, rfl, rfl, rfl, trivial⟩) (by show (((ldw xs ys a / 4294967296) % 16777216) - (i1 + 1)).toNat < (((ldw xs ys a / 4294967296) % 16777216) - i1).toNat; omega)
              ·
               replace h31 : (ldw xs ys (a + 2 + i1)) ≠ (ldw xs ys ((ldw xs ys (a + 1)) + 2 + i1)) := ne_of_beq_false h31
               refine rk [] 2 9 ⟨[(70, .u (ldw xs ys (a + 2 + i1))), (69, .agg (mr W xs ys [.i s, .i b, .i l, .i p, .i q])), (68, .f), (12, .u 0), (9, .u (ldw xs ys ((ldw xs ys (a + 1)) + 2 + i1))), (5, .f)], [(2, .cells [.u (ldw xs ys (a + 1))] 32), (1, .cells [.u a] 32), (0, .cells (mr W xs ys [.i s, .i b, .i l, .i p, .i q]) 31)], 5⟩ [True] ⟨trivial, trivial⟩ ?_
               refine pc (rpover_1 W xs ys s b l p q (ldw xs ys (a + 2 + i1)) ‹_› ‹_› ‹_› ‹_› ‹_› ‹_› ‹_› ‹_› ‹_› (by omega)) ?_
               refine rk [] 8 12 ⟨[(5, .f)], [(2, .cells [.u (ldw xs ys (a + 1))] 32), (1, .cells [.u a] 32), (0, .cells (mr W xs ys [.i s, .i b, .i l, .i p, .i q]) 31)], 5⟩ [True, True] ⟨trivial, trivial, trivial⟩ ?_
               refine en ?_
               refine an ?_
               refine xw_ret ?_
               refine ⟨.f, by kernel_rfl, ?_⟩
               show XOi _ _ _ _ _ _ ⟨[(71, .bool false), (70, .int .i64 i1), (69, .fn 37 [] [.loc 0 0, .loc 1 0, .loc 2 0]), (66, .int .i64 i1), (65, .int .i64 ((ldw xs ys a / 4294967296) % 16777216)), (11, .fn 37 [] [.loc 0 0, .loc 1 0, .loc 2 0]), (4, .bool false)], [(2, .cells [.int .u64 (ldw xs ys (a + 1))] 32), (1, .cells [.int .u64 a] 32), (0, .cells (mr W xs ys [.int .i64 s, .int .i64 b, .int .i64 l, .int .i64 p, .int .i64 q]) 31)], 5⟩
               refine rk [] 1 3 ⟨[(72, .t), (66, .i i1), (65, .i (hL xs ys a)), (11, .fn 37 [] [.p 0, .p 1, .p 2]), (4, .f)], [(2, .cells [.u (ldw xs ys (a + 1))] 32), (1, .cells [.u a] 32), (0, .cells (mr W xs ys [.i s, .i b, .i l, .i p, .i q]) 31)], 5⟩ [] trivial ?_
               refine en ?_
               refine an ?_
               refine ct ?_
               refine rg [] 1 ⟨[(4, .f), (66, .i i1), (65, .i (hL xs ys a)), (11, .fn 37 [] [.p 0, .p 1, .p 2])], [(2, .cells [.u (ldw xs ys (a + 1))] 32), (1, .cells [.u a] 32), (0, .cells (mr W xs ys [.i s, .i b, .i l, .i p, .i q]) 31)], 5⟩ [] trivial ?_
               refine xw_ret ?_
               refine ib_ret ?_
               refine an_ret ?_
               refine ag_ret ?_
               refine ib_ret ?_
               refine an_ret ?_
               exact bs (.f) (Or.inr <| ⟨(by first | rfl | omega | (have hq := aF_eq (n := ((ldw xs ys a / 4294967296) % 16777216)) ‹aF W xs ys s a (ldw xs ys (a + 1)) ((ldw xs ys a / 4294967296) % 16777216) (ldw xs ys a % 4294967296) i1 = 1› (by omega); omega) | (have hq : (aF W xs ys s a (ldw xs ys (a + 1)) ((ldw xs ys a / 4294967296) % 16777216) (ldw xs ys a % 4294967296) ((ldw xs ys a / 4294967296) % 16777216)) = 0 := aF_no (i := i1) (by omega) (by omega) (fF_p0 (by first | exact .inl ‹_› | exact .inr (.inl (by omega)) | exact .inr (.inr (by omega))) (by omega)); omega) | (have hq : (aF W xs ys s a (ldw xs ys (a + 1)) ((ldw xs ys a / 4294967296) % 16777216) (ldw xs ys a % 4294967296) ((ldw xs ys a / 4294967296) % 16777216)) = 0 := aF_no (i := i1) (by omega) (by omega) (fF_o0 ‹_› (by omega) (by omega) (by omega) (by omega)); omega) | (have hq : (aF W xs ys s a (ldw xs ys (a + 1)) ((ldw xs ys a / 4294967296) % 16777216) (ldw xs ys a % 4294967296) ((ldw xs ys a / 4294967296) % 16777216)) = 0 := aF_no (i := i1) (by omega) (by omega) (fF_t0 ‹_› (by omega) (by omega) (by omega) (by omega) (by omega) (by omega)); omega) | (have hq : (aF W xs ys s a (ldw xs ys (a + 1)) ((ldw xs ys a / 4294967296) % 16777216) (ldw xs ys a % 4294967296) ((ldw xs ys a / 4294967296) % 16777216)) = 0 := aF_no (i := i1) (by omega) (by omega) (fF_n0 ‹_› (by omega) (by omega) (by omega) (by omega)); omega)), rfl⟩)
             ·
              refine pc (rpover_2 W xs ys s b l p q (ldw xs ys (a + 2 + i1)) ‹_› ‹_› ‹_› ‹_› ‹_› ‹_› ‹_› ‹_› ‹_› (by omega)) ?_
              refine rk [] 8 3 ⟨[(70, .u (ldw xs ys (a + 2 + i1))), (69, .agg (mr W xs ys [.i s, .i b, .i l, .i p, .i q])), (68, .f), (12, .u 0), (9, .u (ldw xs ys ((ldw xs ys (a + 1)) + 2 + i1))), (5, .f)], [(2, .cells [.u (ldw xs ys (a + 1))] 32), (1, .cells [.u a] 32), (0, .cells (mr W xs ys [.i s, .i b, .i l, .i p, .i q]) 31)], 5⟩ [True, True] ⟨trivial, trivial, trivial⟩ ?_
              refine pc (rpover_2 W xs ys s b l p q (ldw xs ys (a + 2 + i1)) ‹_› ‹_› ‹_› ‹_› ‹_› ‹_› ‹_› ‹_› ‹_› (by omega)) ?_
              refine rk [(16, .f)] 8 12 ⟨[(5, .f)], [(2, .cells [.u (ldw xs ys (a + 1))] 32), (1, .cells [.u a] 32), (0, .cells (mr W xs ys [.i s, .i b, .i l, .i p, .i q]) 31)], 5⟩ [(0 == (ldw xs ys ((ldw xs ys (a + 1)) + 2 + i1))) = false, True, True] ⟨beq_eq_false_iff_ne.2 (by omega), trivial, trivial, trivial⟩ ?_
              refine en ?_
              refine an ?_
              refine xw_ret ?_
              refine ⟨.f, by kernel_rfl, ?_⟩
              show XOi _ _ _ _ _ _ ⟨[(71, .bool false), (70, .int .i64 i1), (69, .fn 37 [] [.loc 0 0, .loc 1 0, .loc 2 0]), (66, .int .i64 i1), (65, .int .i64 ((ldw xs ys a / 4294967296) % 16777216)), (11, .fn 37 [] [.loc 0 0, .loc 1 0, .loc 2 0]), (4, .bool false)], [(2, .cells [.int .u64 (ldw xs ys (a + 1))] 32), (1, .cells [.int .u64 a] 32), (0, .cells (mr W xs ys [.int .i64 s, .int .i64 b, .int .i64 l, .int .i64 p, .int .i64 q]) 31)], 5⟩
              refine rk [] 1 3 ⟨[(72, .t), (66, .i i1), (65, .i (hL xs ys a)), (11, .fn 37 [] [.p 0, .p 1, .p 2]), (4, .f)], [(2, .cells [.u (ldw xs ys (a + 1))] 32), (1, .cells [.u a] 32), (0, .cells (mr W xs ys [.i s, .i b, .i l, .i p, .i q]) 31)], 5⟩ [] trivial ?_
              refine en ?_
              refine an ?_
              refine ct ?_
              refine rg [] 1 ⟨[(4, .f), (66, .i i1), (65, .i (hL xs ys a)), (11, .fn 37 [] [.p 0, .p 1, .p 2])], [(2, .cells [.u (ldw xs ys (a + 1))] 32), (1, .cells [.u a] 32), (0, .cells (mr W xs ys [.i s, .i b, .i l, .i p, .i q]) 31)], 5⟩ [] trivial ?_
              refine xw_ret ?_
              refine ib_ret ?_
              refine an_ret ?_
              refine ag_ret ?_
              refine ib_ret ?_
              refine an_ret ?_
              exact bs (.f) (Or.inr <| ⟨(by first | rfl | omega | (have hq := aF_eq (n := ((ldw xs ys a / 4294967296) % 16777216)) ‹aF W xs ys s a (ldw xs ys (a + 1)) ((ldw xs ys a / 4294967296) % 16777216) (ldw xs ys a % 4294967296) i1 = 1› (by omega); omega) | (have hq : (aF W xs ys s a (ldw xs ys (a + 1)) ((ldw xs ys a / 4294967296) % 16777216) (ldw xs ys a % 4294967296) ((ldw xs ys a / 4294967296) % 16777216)) = 0 := aF_no (i := i1) (by omega) (by omega) (fF_p0 (by first | exact .inl ‹_› | exact .inr (.inl (by omega)) | exact .inr (.inr (by omega))) (by omega)); omega) | (have hq : (aF W xs ys s a (ldw xs ys (a + 1)) ((ldw xs ys a / 4294967296) % 16777216) (ldw xs ys a % 4294967296) ((ldw xs ys a / 4294967296) % 16777216)) = 0 := aF_no (i := i1) (by omega) (by omega) (fF_o0 ‹_› (by omega) (by omega) (by omega) (by omega)); omega) | (have hq : (aF W xs ys s a (ldw xs ys (a + 1)) ((ldw xs ys a / 4294967296) % 16777216) (ldw xs ys a % 4294967296) ((ldw xs ys a / 4294967296) % 16777216)) = 0 := aF_no (i := i1) (by omega) (by omega) (fF_t0 ‹_› (by omega) (by omega) (by omega) (by omega) (by omega) (by omega)); omega) | (have hq : (aF W xs ys s a (ldw xs ys (a + 1)) ((ldw xs ys a / 4294967296) % 16777216) (ldw xs ys a % 4294967296) ((ldw xs ys a / 4294967296) % 16777216)) = 0 := aF_no (i := i1) (by omega) (by omega) (fF_n0 ‹_› (by omega) (by omega) (by omega) (by omega)); omega)), rfl⟩)
            ·
             refine pc (otwin_3 W xs ys (ldw xs ys (a + 2 + i1)) ‹_› ‹_› ‹_› ‹_› ‹_› ‹_› (by omega)) ?_
             have h27 : (oErr W xs ys (ldw xs ys (a + 2 + i1))) = 2 ∨ (oErr W xs ys (ldw xs ys (a + 2 + i1))) = 10 := oErr_no W xs ys (ldw xs ys (a + 2 + i1)) (by omega)
             refine rk [] 5 4 ⟨[(12, .u 0), (9, .u (ldw xs ys ((ldw xs ys (a + 1)) + 2 + i1))), (6, .u (ldw xs ys (a + 2 + i1))), (5, .f), (1, .p 0)], [(2, .cells [.u (ldw xs ys (a + 1))] 32), (1, .cells [.u a] 32), (0, .cells (mr W xs ys [.i s, .i b, .i l, .i p, .i q]) 31)], 5⟩ [] trivial ?_
             refine en ?_
             refine an ?_
             refine xw_seq ?_
             refine reg ?_
             refine rk [] 2 0 ⟨[(61, .u (ldw xs ys (a + 2 + i1))), (60, .agg (mr W xs ys [.i s, .i b, .i l, .i p, .i q])), (12, .u 0), (9, .u (ldw xs ys ((ldw xs ys (a + 1)) + 2 + i1))), (6, .u (ldw xs ys (a + 2 + i1))), (5, .f), (1, .p 0)], [(2, .cells [.u (ldw xs ys (a + 1))] 32), (1, .cells [.u a] 32), (0, .cells (mr W xs ys [.i s, .i b, .i l, .i p, .i q]) 31)], 5⟩ [True] ⟨trivial, trivial⟩ ?_
             by_cases h28 : 1 ≤ (ldw xs ys (a + 2 + i1)) / 4294967296 ∧ (ldw xs ys (a + 2 + i1)) / 4294967296 ≤ 2 ∧ (ldw xs ys (a + 2 + i1)) / 4294967296 - 1 = s
             ·
              refine pc (rpover_1 W xs ys s b l p q (ldw xs ys (a + 2 + i1)) ‹_› ‹_› ‹_› ‹_› ‹_› ‹_› ‹_› ‹_› ‹_› (by omega)) ?_
              refine rk [(6, .bool ((ldw xs ys (a + 2 + i1)) == (ldw xs ys ((ldw xs ys (a + 1)) + 2 + i1))))] 6 3 ⟨[(68, .bool ((ldw xs ys (a + 2 + i1)) == (ldw xs ys ((ldw xs ys (a + 1)) + 2 + i1)))), (12, .u 0), (9, .u (ldw xs ys ((ldw xs ys (a + 1)) + 2 + i1))), (6, .u (ldw xs ys (a + 2 + i1))), (5, .f), (1, .p 0)], [(2, .cells [.u (ldw xs ys (a + 1))] 32), (1, .cells [.u a] 32), (0, .cells (mr W xs ys [.i s, .i b, .i l, .i p, .i q]) 31)], 5⟩ [((ldw xs ys (a + 2 + i1)) == (ldw xs ys ((ldw xs ys (a + 1)) + 2 + i1))) = ((ldw xs ys (a + 2 + i1)) == (ldw xs ys ((ldw xs ys (a + 1)) + 2 + i1))), True] ⟨rfl, trivial, trivial⟩ ?_
              refine splitr 68 (x := ((ldw xs ys (a + 2 + i1)) == (ldw xs ys ((ldw xs ys (a + 1)) + 2 + i1)))) (by kernel_rfl) (fun h29 => ?_) (fun h29 => ?_)
              ·
               replace h29 : (ldw xs ys (a + 2 + i1)) = (ldw xs ys ((ldw xs ys (a + 1)) + 2 + i1)) := eq_of_beq h29
               refine rk [] 11 9 ⟨[(5, .t)], [(2, .cells [.u (ldw xs ys (a + 1))] 32), (1, .cells [.u a] 32), (0, .cells (mr W xs ys [.i s, .i b, .i l, .i p, .i q]) 31)], 5⟩ [True] ⟨trivial, trivial⟩ ?_
               refine en ?_
               refine an ?_
               refine xw_ret ?_
               refine ⟨.t, by kernel_rfl, ?_⟩
               show XOi _ _ _ _ _ _ ⟨[(71, .bool true), (70, .int .i64 i1), (69, .fn 37 [] [.loc 0 0, .loc 1 0, .loc 2 0]), (66, .int .i64 i1), (65, .int .i64 ((ldw xs ys a / 4294967296) % 16777216)), (11, .fn 37 [] [.loc 0 0, .loc 1 0, .loc 2 0]), (4, .bool false)], [(2, .cells [.int .u64 (ldw xs ys (a + 1))] 32), (1, .cells [.int .u64 a] 32), (0, .cells (mr W xs ys [.int .i64 s, .int .i64 b, .int .i64 l, .int .i64 p, .int .i64 q]) 31)], 5⟩
               refine rk [] 1 3 ⟨[(72, .f), (66, .i i1), (65, .i (hL xs ys a)), (11, .fn 37 [] [.p 0, .p 1, .p 2]), (4, .f)], [(2, .cells [.u (ldw xs ys (a + 1))] 32), (1, .cells [.u a] 32), (0, .cells (mr W xs ys [.i s, .i b, .i l, .i p, .i q]) 31)], 5⟩ [] trivial ?_
               refine en ?_
               refine an ?_
               refine cf ?_
               refine xw_skip ?_
               refine ib ?_
               refine an ?_
               refine re [(0, .i (i1 + 1))] 2 ⟨[(66, .i (i1 + 1)), (65, .i (hL xs ys a)), (11, .fn 37 [] [.p 0, .p 1, .p 2]), (4, .f)], [(2, .cells [.u (ldw xs ys (a + 1))] 32), (1, .cells [.u a] 32), (0, .cells (mr W xs ys [.i s, .i b, .i l, .i p, .i q]) 31)], 5⟩ [IntKind.i64.wrap (i1 + 1) = (i1 + 1)] ⟨i64_eq (by omega) (by omega), trivial⟩ ?_
               exact ag ⟨(i1 + 1), ⟨(by omega), (by omega), (by first | exact aF_0 rfl | exact aF_next (i := i1) ‹_› (by omega) (fF_p (by first | exact .inl ‹_› | exact .inr (.inl (by omega)) | exact .inr (.inr (by omega))) (by omega)) rfl | exact aF_next (i := i1) ‹_› (by omega) (fF_o (by omega) (by omega)) rfl | exact aF_next (i := i1) ‹_› (by omega) (fF_t ‹_› (by omega) (by omega) (by omega) (by omega) (by omega) (by omega)) rfl)⟩⟩ (le_of [] [((i1 + 1) : Int) = (i1 + 1), (((ldw xs ys a / 4294967296) % 16777216) : Int) = ((ldw xs ys a / 4294967296) % 16777216), false = false, ((ldw xs ys (a + 1)) : Int) = (ldw xs ys (a + 1)), (a : Int) = a, (W : Int) = W, (false = true → false = true), ((m64 xs) : List SV) = (m64 xs), (false = true → false = true), ((m64 ys) : List SV) = (m64 ys), (s : Int) = s, (b : Int) = b, (l : Int) = l, (p : Int) = p, (q : Int) = q] (by kernel_rfl) ⟨rfl, rfl, rfl, rfl, rfl, rfl, id, rfl, id, rfl, rfl, rfl, rfl, rfl, rfl, trivial⟩) (by show (((ldw xs ys a / 4294967296) % 16777216) - (i1 + 1)).toNat < (((ldw xs ys a / 4294967296) % 16777216) - i1).toNat; omega)
              ·
               replace h29 : (ldw xs ys (a + 2 + i1)) ≠ (ldw xs ys ((ldw xs ys (a + 1)) + 2 + i1)) := ne_of_beq_false h29
               refine rk [] 2 9 ⟨[(70, .u (ldw xs ys (a + 2 + i1))), (69, .agg (mr W xs ys [.i s, .i b, .i l, .i p, .i q])), (68, .f), (12, .u 0), (9, .u (ldw xs ys ((ldw xs ys (a + 1)) + 2 + i1))), (5, .f)], [(2, .cells [.u (ldw xs ys (a + 1))] 32), (1, .cells [.u a] 32), (0, .cells (mr W xs ys [.i s, .i b, .i l, .i p, .i q]) 31)], 5⟩ [True] ⟨trivial, trivial⟩ ?_
               refine pc (rpover_1 W xs ys s b l p q (ldw xs ys (a + 2 + i1)) ‹_› ‹_› ‹_› ‹_› ‹_› ‹_› ‹_› ‹_› ‹_› (by omega)) ?_
               refine rk [] 8 12 ⟨[(5, .f)], [(2, .cells [.u (ldw xs ys (a + 1))] 32), (1, .cells [.u a] 32), (0, .cells (mr W xs ys [.i s, .i b, .i l, .i p, .i q]) 31)], 5⟩ [True, True] ⟨trivial, trivial, trivial⟩ ?_
               refine en ?_
               refine an ?_
               refine xw_ret ?_
               refine ⟨.f, by kernel_rfl, ?_⟩
               show XOi _ _ _ _ _ _ ⟨[(71, .bool false), (70, .int .i64 i1), (69, .fn 37 [] [.loc 0 0, .loc 1 0, .loc 2 0]), (66, .int .i64 i1), (65, .int .i64 ((ldw xs ys a / 4294967296) % 16777216)), (11, .fn 37 [] [.loc 0 0, .loc 1 0, .loc 2 0]), (4, .bool false)], [(2, .cells [.int .u64 (ldw xs ys (a + 1))] 32), (1, .cells [.int .u64 a] 32), (0, .cells (mr W xs ys [.int .i64 s, .int .i64 b, .int .i64 l, .int .i64 p, .int .i64 q]) 31)], 5⟩
               refine rk [] 1 3 ⟨[(72, .t), (66, .i i1), (65, .i (hL xs ys a)), (11, .fn 37 [] [.p 0, .p 1, .p 2]), (4, .f)], [(2, .cells [.u (ldw xs ys (a + 1))] 32), (1, .cells [.u a] 32), (0, .cells (mr W xs ys [.i s, .i b, .i l, .i p, .i q]) 31)], 5⟩ [] trivial ?_
               refine en ?_
               refine an ?_
               refine ct ?_
               refine rg [] 1 ⟨[(4, .f), (66, .i i1), (65, .i (hL xs ys a)), (11, .fn 37 [] [.p 0, .p 1, .p 2])], [(2, .cells [.u (ldw xs ys (a + 1))] 32), (1, .cells [.u a] 32), (0, .cells (mr W xs ys [.i s, .i b, .i l, .i p, .i q]) 31)], 5⟩ [] trivial ?_
               refine xw_ret ?_
               refine ib_ret ?_
               refine an_ret ?_
               refine ag_ret ?_
               refine ib_ret ?_
               refine an_ret ?_
               exact bs (.f) (Or.inr <| ⟨(by first | rfl | omega | (have hq := aF_eq (n := ((ldw xs ys a / 4294967296) % 16777216)) ‹aF W xs ys s a (ldw xs ys (a + 1)) ((ldw xs ys a / 4294967296) % 16777216) (ldw xs ys a % 4294967296) i1 = 1› (by omega); omega) | (have hq : (aF W xs ys s a (ldw xs ys (a + 1)) ((ldw xs ys a / 4294967296) % 16777216) (ldw xs ys a % 4294967296) ((ldw xs ys a / 4294967296) % 16777216)) = 0 := aF_no (i := i1) (by omega) (by omega) (fF_p0 (by first | exact .inl ‹_› | exact .inr (.inl (by omega)) | exact .inr (.inr (by omega))) (by omega)); omega) | (have hq : (aF W xs ys s a (ldw xs ys (a + 1)) ((ldw xs ys a / 4294967296) % 16777216) (ldw xs ys a % 4294967296) ((ldw xs ys a / 4294967296) % 16777216)) = 0 := aF_no (i := i1) (by omega) (by omega) (fF_o0 ‹_› (by omega) (by omega) (by omega) (by omega)); omega) | (have hq : (aF W xs ys s a (ldw xs ys (a + 1)) ((ldw xs ys a / 4294967296) % 16777216) (ldw xs ys a % 4294967296) ((ldw xs ys a / 4294967296) % 16777216)) = 0 := aF_no (i := i1) (by omega) (by omega) (fF_t0 ‹_› (by omega) (by omega) (by omega) (by omega) (by omega) (by omega)); omega) | (have hq : (aF W xs ys s a (ldw xs ys (a + 1)) ((ldw xs ys a / 4294967296) % 16777216) (ldw xs ys a % 4294967296) ((ldw xs ys a / 4294967296) % 16777216)) = 0 := aF_no (i := i1) (by omega) (by omega) (fF_n0 ‹_› (by omega) (by omega) (by omega) (by omega)); omega)), rfl⟩)
             ·
              refine pc (rpover_2 W xs ys s b l p q (ldw xs ys (a + 2 + i1)) ‹_› ‹_› ‹_› ‹_› ‹_› ‹_› ‹_› ‹_› ‹_› (by omega)) ?_
              refine rk [] 8 3 ⟨[(70, .u (ldw xs ys (a + 2 + i1))), (69, .agg (mr W xs ys [.i s, .i b, .i l, .i p, .i q])), (68, .f), (12, .u 0), (9, .u (ldw xs ys ((ldw xs ys (a + 1)) + 2 + i1))), (5, .f)], [(2, .cells [.u (ldw xs ys (a + 1))] 32), (1, .cells [.u a] 32), (0, .cells (mr W xs ys [.i s, .i b, .i l, .i p, .i q]) 31)], 5⟩ [True, True] ⟨trivial, trivial, trivial⟩ ?_
              refine pc (rpover_2 W xs ys s b l p q (ldw xs ys (a + 2 + i1)) ‹_› ‹_› ‹_› ‹_› ‹_› ‹_› ‹_› ‹_› ‹_› (by omega)) ?_
              refine rk [(16, .f)] 8 12 ⟨[(5, .f)], [(2, .cells [.u (ldw xs ys (a + 1))] 32), (1, .cells [.u a] 32), (0, .cells (mr W xs ys [.i s, .i b, .i l, .i p, .i q]) 31)], 5⟩ [(0 == (ldw xs ys ((ldw xs ys (a + 1)) + 2 + i1))) = false, True, True] ⟨beq_eq_false_iff_ne.2 (by omega), trivial, trivial, trivial⟩ ?_
              refine en ?_
              refine an ?_
              refine xw_ret ?_
              refine ⟨.f, by kernel_rfl, ?_⟩
              show XOi _ _ _ _ _ _ ⟨[(71, .bool false), (70, .int .i64 i1), (69, .fn 37 [] [.loc 0 0, .loc 1 0, .loc 2 0]), (66, .int .i64 i1), (65, .int .i64 ((ldw xs ys a / 4294967296) % 16777216)), (11, .fn 37 [] [.loc 0 0, .loc 1 0, .loc 2 0]), (4, .bool false)], [(2, .cells [.int .u64 (ldw xs ys (a + 1))] 32), (1, .cells [.int .u64 a] 32), (0, .cells (mr W xs ys [.int .i64 s, .int .i64 b, .int .i64 l, .int .i64 p, .int .i64 q]) 31)], 5⟩
              refine rk [] 1 3 ⟨[(72, .t), (66, .i i1), (65, .i (hL xs ys a)), (11, .fn 37 [] [.p 0, .p 1, .p 2]), (4, .f)], [(2, .cells [.u (ldw xs ys (a + 1))] 32), (1, .cells [.u a] 32), (0, .cells (mr W xs ys [.i s, .i b, .i l, .i p, .i q]) 31)], 5⟩ [] trivial ?_
              refine en ?_
              refine an ?_
              refine ct ?_
              refine rg [] 1 ⟨[(4, .f), (66, .i i1), (65, .i (hL xs ys a)), (11, .fn 37 [] [.p 0, .p 1, .p 2])], [(2, .cells [.u (ldw xs ys (a + 1))] 32), (1, .cells [.u a] 32), (0, .cells (mr W xs ys [.i s, .i b, .i l, .i p, .i q]) 31)], 5⟩ [] trivial ?_
              refine xw_ret ?_
              refine ib_ret ?_
              refine an_ret ?_
              refine ag_ret ?_
              refine ib_ret ?_
              refine an_ret ?_
              exact bs (.f) (Or.inr <| ⟨(by first | rfl | omega | (have hq := aF_eq (n := ((ldw xs ys a / 4294967296) % 16777216)) ‹aF W xs ys s a (ldw xs ys (a + 1)) ((ldw xs ys a / 4294967296) % 16777216) (ldw xs ys a % 4294967296) i1 = 1› (by omega); omega) | (have hq : (aF W xs ys s a (ldw xs ys (a + 1)) ((ldw xs ys a / 4294967296) % 16777216) (ldw xs ys a % 4294967296) ((ldw xs ys a / 4294967296) % 16777216)) = 0 := aF_no (i := i1) (by omega) (by omega) (fF_p0 (by first | exact .inl ‹_› | exact .inr (.inl (by omega)) | exact .inr (.inr (by omega))) (by omega)); omega) | (have hq : (aF W xs ys s a (ldw xs ys (a + 1)) ((ldw xs ys a / 4294967296) % 16777216) (ldw xs ys a % 4294967296) ((ldw xs ys a / 4294967296) % 16777216)) = 0 := aF_no (i := i1) (by omega) (by omega) (fF_o0 ‹_› (by omega) (by omega) (by omega) (by omega)); omega) | (have hq : (aF W xs ys s a (ldw xs ys (a + 1)) ((ldw xs ys a / 4294967296) % 16777216) (ldw xs ys a % 4294967296) ((ldw xs ys a / 4294967296) % 16777216)) = 0 := aF_no (i := i1) (by omega) (by omega) (fF_t0 ‹_› (by omega) (by omega) (by omega) (by omega) (by omega) (by omega)); omega) | (have hq : (aF W xs ys s a (ldw xs ys (a + 1)) ((ldw xs ys a / 4294967296) % 16777216) (ldw xs ys a % 4294967296) ((ldw xs ys a / 4294967296) % 16777216)) = 0 := aF_no (i := i1) (by omega) (by omega) (fF_n0 ‹_› (by omega) (by omega) (by omega) (by omega)); omega)), rfl⟩)
       ·
        replace h17 : ¬ (i1 < ((ldw xs ys a / 4294967296) % 16777216)) := of_decide_eq_false h17
        refine xw_exit ?_
        refine an_exit ?_
        refine ag_exit ?_
        refine ib_same ?_
        refine an ?_
        refine rg [] 1 ⟨[(4, .t)], [], 5⟩ [] trivial ?_
        refine xw_ret ?_
        exact bs (.t) (Or.inl <| ⟨(by first | rfl | omega | (have hq := aF_eq (n := ((ldw xs ys a / 4294967296) % 16777216)) ‹aF W xs ys s a (ldw xs ys (a + 1)) ((ldw xs ys a / 4294967296) % 16777216) (ldw xs ys a % 4294967296) i1 = 1› (by omega); omega) | (have hq : (aF W xs ys s a (ldw xs ys (a + 1)) ((ldw xs ys a / 4294967296) % 16777216) (ldw xs ys a % 4294967296) ((ldw xs ys a / 4294967296) % 16777216)) = 0 := aF_no (i := i1) (by omega) (by omega) (fF_p0 (by first | exact .inl ‹_› | exact .inr (.inl (by omega)) | exact .inr (.inr (by omega))) (by omega)); omega) | (have hq : (aF W xs ys s a (ldw xs ys (a + 1)) ((ldw xs ys a / 4294967296) % 16777216) (ldw xs ys a % 4294967296) ((ldw xs ys a / 4294967296) % 16777216)) = 0 := aF_no (i := i1) (by omega) (by omega) (fF_o0 ‹_› (by omega) (by omega) (by omega) (by omega)); omega) | (have hq : (aF W xs ys s a (ldw xs ys (a + 1)) ((ldw xs ys a / 4294967296) % 16777216) (ldw xs ys a % 4294967296) ((ldw xs ys a / 4294967296) % 16777216)) = 0 := aF_no (i := i1) (by omega) (by omega) (fF_t0 ‹_› (by omega) (by omega) (by omega) (by omega) (by omega) (by omega)); omega) | (have hq : (aF W xs ys s a (ldw xs ys (a + 1)) ((ldw xs ys a / 4294967296) % 16777216) (ldw xs ys a % 4294967296) ((ldw xs ys a / 4294967296) % 16777216)) = 0 := aF_no (i := i1) (by omega) (by omega) (fF_n0 ‹_› (by omega) (by omega) (by omega) (by omega)); omega)), rfl⟩)
      ·
       refine pc (rpover_2 W xs ys s b l p q (ldw xs ys (a + 1)) ‹_› ‹_› ‹_› ‹_› ‹_› ‹_› ‹_› ‹_› ‹_› (by omega)) ?_
       refine rk [] 2 15 ⟨[(62, .t), (7, .p 3), (5, .p 2), (4, .f), (3, .p 1), (2, .p 0)], [(3, .cells [.i (hT xs ys a), .i (hL xs ys a), .u (hM xs ys a)] 37), (2, .cells [.u (ldw xs ys (a + 1))] 32), (1, .cells [.u a] 32), (0, .cells (mr W xs ys [.i s, .i b, .i l, .i p, .i q]) 31)], 5⟩ [True] ⟨trivial, trivial⟩ ?_
       refine en ?_
       refine an ?_
       refine ct ?_
       refine rg [] 1 ⟨[(4, .f), (7, .p 3), (5, .p 2), (3, .p 1), (2, .p 0)], [(3, .cells [.i (hT xs ys a), .i (hL xs ys a), .u (hM xs ys a)] 37), (2, .cells [.u (ldw xs ys (a + 1))] 32), (1, .cells [.u a] 32), (0, .cells (mr W xs ys [.i s, .i b, .i l, .i p, .i q]) 31)], 5⟩ [] trivial ?_
       refine xw_ret ?_
       refine an_ret ?_
       exact bs (.f) (Or.inr <| ⟨(by omega), rfl⟩)
    ·
     refine pc (oat_2 W xs ys (ldw xs ys (a + 1)) ‹_› ‹_› ‹_› ‹_› ‹_› ‹_› ‹_›) ?_
     have h9 : (oErr W xs ys (ldw xs ys (a + 1))) = 2 ∨ (oErr W xs ys (ldw xs ys (a + 1))) = 10 := oErr_no W xs ys (ldw xs ys (a + 1)) (by omega)
     refine rk [] 6 4 ⟨[(10, .i (oErr W xs ys (ldw xs ys (a + 1)))), (9, .p 4), (8, .i 0), (7, .p 3), (5, .p 2), (4, .f), (3, .p 1), (2, .p 0)], [(4, .cells [.i 0, .i 0, .u 0] 37), (3, .cells [.i (hT xs ys a), .i (hL xs ys a), .u (hM xs ys a)] 37), (2, .cells [.u (ldw xs ys (a + 1))] 32), (1, .cells [.u a] 32), (0, .cells (mr W xs ys [.i s, .i b, .i l, .i p, .i q]) 31)], 5⟩ [True] ⟨trivial, trivial⟩ ?_
     refine en ?_
     refine an ?_
     refine xw_seq ?_
     refine rg [(1, .f), (4, .t)] 17 ⟨[(62, .t), (7, .p 3), (5, .p 2), (4, .f), (3, .p 1), (2, .p 0)], [(3, .cells [.i (hT xs ys a), .i (hL xs ys a), .u (hM xs ys a)] 37), (2, .cells [.u (ldw xs ys (a + 1))] 32), (1, .cells [.u a] 32), (0, .cells (mr W xs ys [.i s, .i b, .i l, .i p, .i q]) 31)], 5⟩ [(0 != 0) = false, ((oErr W xs ys (ldw xs ys (a + 1))) != 0) = true, True, True, True] ⟨bne_eq_false_iff_eq.2 (by omega), bne_iff_ne.2 (by omega), trivial, trivial, trivial, trivial⟩ ?_
     refine ct ?_
     refine rg [] 1 ⟨[(4, .f), (7, .p 3), (5, .p 2), (3, .p 1), (2, .p 0)], [(3, .cells [.i (hT xs ys a), .i (hL xs ys a), .u (hM xs ys a)] 37), (2, .cells [.u (ldw xs ys (a + 1))] 32), (1, .cells [.u a] 32), (0, .cells (mr W xs ys [.i s, .i b, .i l, .i p, .i q]) 31)], 5⟩ [] trivial ?_
     refine xw_ret ?_
     refine an_ret ?_
     exact bs (.f) (Or.inr <| ⟨(by omega), rfl⟩)
   ·
    by_cases h3 : ((oErr W xs ys a) = 0) ∧ ((ldw xs ys a / 72057594037927936) = 255)
    ·
     refine pc (otwin_2 W xs ys a ‹_› ‹_› ‹_› ‹_› ‹_› ‹_› (by omega) (by omega)) ?_
     obtain ⟨h4, h5, h6⟩ := oErr_ok W xs ys a (by omega)
     refine rk [] 6 4 ⟨[(5, .p 2), (4, .f), (3, .p 1), (2, .p 0)], [(2, .cells [.u 0] 32), (1, .cells [.u a] 32), (0, .cells (mr W xs ys [.i s, .i b, .i l, .i p, .i q]) 31)], 3⟩ [True] ⟨trivial, trivial⟩ ?_
     refine en ?_
     refine an ?_
     refine xw_seq ?_
     refine reg ?_
     refine rk [] 3 0 ⟨[(35, .u a), (34, .agg (mm W xs ys)), (5, .p 2), (4, .f), (3, .p 1), (2, .p 0)], [(2, .cells [.u 0] 32), (1, .cells [.u a] 32), (0, .cells (mr W xs ys [.i s, .i b, .i l, .i p, .i q]) 31)], 3⟩ [True, True] ⟨trivial, trivial, trivial⟩ ?_
     refine pc (oat_1 W xs ys a ‹_› ‹_› ‹_› ‹_› ‹_› ‹_› (by omega)) ?_
     refine rk [] 6 4 ⟨[(8, .i 0), (7, .p 3), (5, .p 2), (4, .f), (3, .p 1), (2, .p 0)], [(3, .cells [.i (hT xs ys a), .i (hL xs ys a), .u (hM xs ys a)] 37), (2, .cells [.u 0] 32), (1, .cells [.u a] 32), (0, .cells (mr W xs ys [.i s, .i b, .i l, .i p, .i q]) 31)], 4⟩ [True] ⟨trivial, trivial⟩ ?_
     refine en ?_
     refine an ?_
     refine xw_seq ?_
     refine reg ?_
     refine rk [] 3 0 ⟨[(42, .u 0), (41, .agg (mm W xs ys)), (8, .i 0), (7, .p 3), (5, .p 2), (4, .f), (3, .p 1), (2, .p 0)], [(3, .cells [.i (hT xs ys a), .i (hL xs ys a), .u (hM xs ys a)] 37), (2, .cells [.u 0] 32), (1, .cells [.u a] 32), (0, .cells (mr W xs ys [.i s, .i b, .i l, .i p, .i q]) 31)], 4⟩ [True, True] ⟨trivial, trivial, trivial⟩ ?_
     by_cases h7 : (oErr W xs ys 0) = 0
     ·
      refine pc (oat_1 W xs ys 0 ‹_› ‹_› ‹_› ‹_› ‹_› (by omega) ‹_›) ?_
      obtain ⟨h8, h9, h10⟩ := oErr_ok W xs ys 0 ‹_›
      refine rk [] 6 4 ⟨[(10, .i 0), (9, .p 4), (8, .i 0), (7, .p 3), (5, .p 2), (4, .f), (3, .p 1), (2, .p 0)], [(4, .cells [.i (hT xs ys 0), .i (hL xs ys 0), .u (hM xs ys 0)] 37), (3, .cells [.i (hT xs ys a), .i (hL xs ys a), .u (hM xs ys a)] 37), (2, .cells [.u 0] 32), (1, .cells [.u a] 32), (0, .cells (mr W xs ys [.i s, .i b, .i l, .i p, .i q]) 31)], 5⟩ [True] ⟨trivial, trivial⟩ ?_
      refine en ?_
      refine an ?_
      refine xw_seq ?_
      refine rg [(1, .t)] 17 ⟨[(62, .t), (7, .p 3), (5, .p 2), (4, .f), (3, .p 1), (2, .p 0)], [(3, .cells [.i (hT xs ys a), .i (hL xs ys a), .u (hM xs ys a)] 37), (2, .cells [.u 0] 32), (1, .cells [.u a] 32), (0, .cells (mr W xs ys [.i s, .i b, .i l, .i p, .i q]) 31)], 5⟩ [(0 != 0) = true, True, True, True] ⟨bne_iff_ne.2 (by omega), trivial, trivial, trivial, trivial⟩ ?_
      refine ct ?_
      refine rg [] 1 ⟨[(4, .f), (7, .p 3), (5, .p 2), (3, .p 1), (2, .p 0)], [(3, .cells [.i (hT xs ys a), .i (hL xs ys a), .u (hM xs ys a)] 37), (2, .cells [.u 0] 32), (1, .cells [.u a] 32), (0, .cells (mr W xs ys [.i s, .i b, .i l, .i p, .i q]) 31)], 5⟩ [] trivial ?_
      refine xw_ret ?_
      refine an_ret ?_
      exact bs (.f) (Or.inr <| ⟨(by omega), rfl⟩)
     ·
      refine pc (oat_2 W xs ys 0 ‹_› ‹_› ‹_› ‹_› ‹_› (by omega) ‹_›) ?_
      have h8 : (oErr W xs ys 0) = 2 ∨ (oErr W xs ys 0) = 10 := oErr_no W xs ys 0 (by omega)
      refine rk [] 6 4 ⟨[(10, .i (oErr W xs ys 0)), (9, .p 4), (8, .i 0), (7, .p 3), (5, .p 2), (4, .f), (3, .p 1), (2, .p 0)], [(4, .cells [.i 0, .i 0, .u 0] 37), (3, .cells [.i (hT xs ys a), .i (hL xs ys a), .u (hM xs ys a)] 37), (2, .cells [.u 0] 32), (1, .cells [.u a] 32), (0, .cells (mr W xs ys [.i s, .i b, .i l, .i p, .i q]) 31)], 5⟩ [True] ⟨trivial, trivial⟩ ?_
      refine en ?_
      refine an ?_
      refine xw_seq ?_
      refine rg [(1, .f), (4, .t)] 17 ⟨[(62, .t), (7, .p 3), (5, .p 2), (4, .f), (3, .p 1), (2, .p 0)], [(3, .cells [.i (hT xs ys a), .i (hL xs ys a), .u (hM xs ys a)] 37), (2, .cells [.u 0] 32), (1, .cells [.u a] 32), (0, .cells (mr W xs ys [.i s, .i b, .i l, .i p, .i q]) 31)], 5⟩ [(0 != 0) = false, ((oErr W xs ys 0) != 0) = true, True, True, True] ⟨bne_eq_false_iff_eq.2 (by omega), bne_iff_ne.2 (by omega), trivial, trivial, trivial, trivial⟩ ?_
      refine ct ?_
      refine rg [] 1 ⟨[(4, .f), (7, .p 3), (5, .p 2), (3, .p 1), (2, .p 0)], [(3, .cells [.i (hT xs ys a), .i (hL xs ys a), .u (hM xs ys a)] 37), (2, .cells [.u 0] 32), (1, .cells [.u a] 32), (0, .cells (mr W xs ys [.i s, .i b, .i l, .i p, .i q]) 31)], 5⟩ [] trivial ?_
      refine xw_ret ?_
      refine an_ret ?_
      exact bs (.f) (Or.inr <| ⟨(by omega), rfl⟩)
    ·
     refine pc (otwin_3 W xs ys a ‹_› ‹_› ‹_› ‹_› ‹_› ‹_› (by omega)) ?_
     have h4 : (oErr W xs ys a) = 2 ∨ (oErr W xs ys a) = 10 := oErr_no W xs ys a (by omega)
     refine rk [] 6 4 ⟨[(5, .p 2), (4, .f), (3, .p 1), (2, .p 0)], [(2, .cells [.u 0] 32), (1, .cells [.u a] 32), (0, .cells (mr W xs ys [.i s, .i b, .i l, .i p, .i q]) 31)], 3⟩ [True] ⟨trivial, trivial⟩ ?_
     refine en ?_
     refine an ?_
     refine xw_seq ?_
     refine reg ?_
     refine rk [] 3 0 ⟨[(35, .u a), (34, .agg (mm W xs ys)), (5, .p 2), (4, .f), (3, .p 1), (2, .p 0)], [(2, .cells [.u 0] 32), (1, .cells [.u a] 32), (0, .cells (mr W xs ys [.i s, .i b, .i l, .i p, .i q]) 31)], 3⟩ [True, True] ⟨trivial, trivial, trivial⟩ ?_
     refine pc (oat_2 W xs ys a ‹_› ‹_› ‹_› ‹_› ‹_› ‹_› (by omega)) ?_
     refine rk [] 6 4 ⟨[(8, .i (oErr W xs ys a)), (7, .p 3), (5, .p 2), (4, .f), (3, .p 1), (2, .p 0)], [(3, .cells [.i 0, .i 0, .u 0] 37), (2, .cells [.u 0] 32), (1, .cells [.u a] 32), (0, .cells (mr W xs ys [.i s, .i b, .i l, .i p, .i q]) 31)], 4⟩ [True] ⟨trivial, trivial⟩ ?_
     refine en ?_
     refine an ?_
     refine xw_seq ?_
     refine reg ?_
     refine rk [] 3 0 ⟨[(42, .u 0), (41, .agg (mm W xs ys)), (8, .i (oErr W xs ys a)), (7, .p 3), (5, .p 2), (4, .f), (3, .p 1), (2, .p 0)], [(3, .cells [.i 0, .i 0, .u 0] 37), (2, .cells [.u 0] 32), (1, .cells [.u a] 32), (0, .cells (mr W xs ys [.i s, .i b, .i l, .i p, .i q]) 31)], 4⟩ [True, True] ⟨trivial, trivial, trivial⟩ ?_
     by_cases h5 : (oErr W xs ys 0) = 0
     ·
      refine pc (oat_1 W xs ys 0 ‹_› ‹_› ‹_› ‹_› ‹_› (by omega) ‹_›) ?_
      obtain ⟨h6, h7, h8⟩ := oErr_ok W xs ys 0 ‹_›
      refine rk [] 6 4 ⟨[(10, .i 0), (9, .p 4), (8, .i (oErr W xs ys a)), (7, .p 3), (5, .p 2), (4, .f), (3, .p 1), (2, .p 0)], [(4, .cells [.i (hT xs ys 0), .i (hL xs ys 0), .u (hM xs ys 0)] 37), (3, .cells [.i 0, .i 0, .u 0] 37), (2, .cells [.u 0] 32), (1, .cells [.u a] 32), (0, .cells (mr W xs ys [.i s, .i b, .i l, .i p, .i q]) 31)], 5⟩ [True] ⟨trivial, trivial⟩ ?_
      refine en ?_
      refine an ?_
      refine xw_seq ?_
      refine rg [(1, .t)] 17 ⟨[(62, .t), (7, .p 3), (5, .p 2), (4, .f), (3, .p 1), (2, .p 0)], [(3, .cells [.i 0, .i 0, .u 0] 37), (2, .cells [.u 0] 32), (1, .cells [.u a] 32), (0, .cells (mr W xs ys [.i s, .i b, .i l, .i p, .i q]) 31)], 5⟩ [((oErr W xs ys a) != 0) = true, True, True, True] ⟨bne_iff_ne.2 (by omega), trivial, trivial, trivial, trivial⟩ ?_
      refine ct ?_
      refine rg [] 1 ⟨[(4, .f), (7, .p 3), (5, .p 2), (3, .p 1), (2, .p 0)], [(3, .cells [.i 0, .i 0, .u 0] 37), (2, .cells [.u 0] 32), (1, .cells [.u a] 32), (0, .cells (mr W xs ys [.i s, .i b, .i l, .i p, .i q]) 31)], 5⟩ [] trivial ?_
      refine xw_ret ?_
      refine an_ret ?_
      exact bs (.f) (Or.inr <| ⟨(by omega), rfl⟩)
     ·
      refine pc (oat_2 W xs ys 0 ‹_› ‹_› ‹_› ‹_› ‹_› (by omega) ‹_›) ?_
      have h6 : (oErr W xs ys 0) = 2 ∨ (oErr W xs ys 0) = 10 := oErr_no W xs ys 0 (by omega)
      refine rk [] 6 4 ⟨[(10, .i (oErr W xs ys 0)), (9, .p 4), (8, .i (oErr W xs ys a)), (7, .p 3), (5, .p 2), (4, .f), (3, .p 1), (2, .p 0)], [(4, .cells [.i 0, .i 0, .u 0] 37), (3, .cells [.i 0, .i 0, .u 0] 37), (2, .cells [.u 0] 32), (1, .cells [.u a] 32), (0, .cells (mr W xs ys [.i s, .i b, .i l, .i p, .i q]) 31)], 5⟩ [True] ⟨trivial, trivial⟩ ?_
      refine en ?_
      refine an ?_
      refine xw_seq ?_
      refine rg [(1, .t)] 17 ⟨[(62, .t), (7, .p 3), (5, .p 2), (4, .f), (3, .p 1), (2, .p 0)], [(3, .cells [.i 0, .i 0, .u 0] 37), (2, .cells [.u 0] 32), (1, .cells [.u a] 32), (0, .cells (mr W xs ys [.i s, .i b, .i l, .i p, .i q]) 31)], 5⟩ [((oErr W xs ys a) != 0) = true, True, True, True] ⟨bne_iff_ne.2 (by omega), trivial, trivial, trivial, trivial⟩ ?_
      refine ct ?_
      refine rg [] 1 ⟨[(4, .f), (7, .p 3), (5, .p 2), (3, .p 1), (2, .p 0)], [(3, .cells [.i 0, .i 0, .u 0] 37), (2, .cells [.u 0] 32), (1, .cells [.u a] 32), (0, .cells (mr W xs ys [.i s, .i b, .i l, .i p, .i q]) 31)], 5⟩ [] trivial ?_
      refine xw_ret ?_
      refine an_ret ?_
      exact bs (.f) (Or.inr <| ⟨(by omega), rfl⟩)

theorem rpsame_1 (W : Int) (xs : List Int) (ys : List Int) (s : Int) (b : Int) (l : Int) (p : Int) (q : Int) (a : Int) (hp0 : 16 ≤ W ∧ W ≤ 4096) (hp1 : (xs.length : Int) = W) (hp2 : (ys.length : Int) = W) (hp3 : U64s xs) (hp4 : U64s ys) (hp5 : (s = 0 ∨ s = 1) ∧ 0 ≤ b ∧ b ≤ l ∧ l ≤ 4096) (hp6 : l = W) (hp7 : 0 ≤ p ∧ p ≤ q ∧ q ≤ b) (hp8 : 0 ≤ a ∧ a ≤ 18446744073709551615) (hp9 : a = 0 ∨ (1 ≤ a / 4294967296 ∧ a / 4294967296 ≤ 2 ∧ a / 4294967296 - 1 = s ∧ (oErr W xs ys a) = 0 ∧ (ldw xs ys a / 72057594037927936) ≠ 255) ∨ ((oErr W xs ys a) = 0 ∧ (ldw xs ys a / 72057594037927936) ≠ 255 ∧ 1 ≤ (ldw xs ys (a + 1)) / 4294967296 ∧ (ldw xs ys (a + 1)) / 4294967296 ≤ 2 ∧ (ldw xs ys (a + 1)) / 4294967296 - 1 = s ∧ (oErr W xs ys (ldw xs ys (a + 1))) = 0 ∧ (ldw xs ys a / 72057594037927936) = (ldw xs ys (ldw xs ys (a + 1)) / 72057594037927936) ∧ ((ldw xs ys a / 4294967296) % 16777216) = ((ldw xs ys (ldw xs ys (a + 1)) / 4294967296) % 16777216) ∧ (ldw xs ys a % 4294967296) = (ldw xs ys (ldw xs ys (a + 1)) % 4294967296) ∧ (aF W xs ys s a (ldw xs ys (a + 1)) ((ldw xs ys a / 4294967296) % 16777216) (ldw xs ys a % 4294967296) ((ldw xs ys a / 4294967296) % 16777216)) = 1)) : Pub Try.prog 13 [.agg (mr W xs ys [.int .i64 s, .int .i64 b, .int .i64 l, .int .i64 p, .int .i64 q]), .int .u64 a] (fun rv => rv = .bool true) := by
  refine (rpsame W xs ys s b l p q a hp0 hp1 hp2 hp3 hp4 hp5 hp6 hp7 hp8).mono ?_
  rintro _ (⟨g0, rfl⟩ | ⟨g0, rfl⟩)
  · rfl
  · exfalso; first | omega | grind

theorem rpsame_2 (W : Int) (xs : List Int) (ys : List Int) (s : Int) (b : Int) (l : Int) (p : Int) (q : Int) (a : Int) (hp0 : 16 ≤ W ∧ W ≤ 4096) (hp1 : (xs.length : Int) = W) (hp2 : (ys.length : Int) = W) (hp3 : U64s xs) (hp4 : U64s ys) (hp5 : (s = 0 ∨ s = 1) ∧ 0 ≤ b ∧ b ≤ l ∧ l ≤ 4096) (hp6 : l = W) (hp7 : 0 ≤ p ∧ p ≤ q ∧ q ≤ b) (hp8 : 0 ≤ a ∧ a ≤ 18446744073709551615) (hp9 : ¬ (a = 0 ∨ (1 ≤ a / 4294967296 ∧ a / 4294967296 ≤ 2 ∧ a / 4294967296 - 1 = s ∧ (oErr W xs ys a) = 0 ∧ (ldw xs ys a / 72057594037927936) ≠ 255) ∨ ((oErr W xs ys a) = 0 ∧ (ldw xs ys a / 72057594037927936) ≠ 255 ∧ 1 ≤ (ldw xs ys (a + 1)) / 4294967296 ∧ (ldw xs ys (a + 1)) / 4294967296 ≤ 2 ∧ (ldw xs ys (a + 1)) / 4294967296 - 1 = s ∧ (oErr W xs ys (ldw xs ys (a + 1))) = 0 ∧ (ldw xs ys a / 72057594037927936) = (ldw xs ys (ldw xs ys (a + 1)) / 72057594037927936) ∧ ((ldw xs ys a / 4294967296) % 16777216) = ((ldw xs ys (ldw xs ys (a + 1)) / 4294967296) % 16777216) ∧ (ldw xs ys a % 4294967296) = (ldw xs ys (ldw xs ys (a + 1)) % 4294967296) ∧ (aF W xs ys s a (ldw xs ys (a + 1)) ((ldw xs ys a / 4294967296) % 16777216) (ldw xs ys a % 4294967296) ((ldw xs ys a / 4294967296) % 16777216)) = 1))) : Pub Try.prog 13 [.agg (mr W xs ys [.int .i64 s, .int .i64 b, .int .i64 l, .int .i64 p, .int .i64 q]), .int .u64 a] (fun rv => rv = .bool false) := by
  refine (rpsame W xs ys s b l p q a hp0 hp1 hp2 hp3 hp4 hp5 hp6 hp7 hp8).mono ?_
  rintro _ (⟨g0, rfl⟩ | ⟨g0, rfl⟩)
  · exfalso; first | omega | grind
  · rfl

set_option maxHeartbeats 8000000 in
theorem rrpsame (W : Int) (xs : List Int) (ys : List Int) (s : Int) (b : Int) (l : Int) (p : Int) (q : Int) (a : Int) (hp0 : 16 ≤ W ∧ W ≤ 4096) (hp1 : (xs.length : Int) = W) (hp2 : (ys.length : Int) = W) (hp3 : U64s xs) (hp4 : U64s ys) (hp5 : (s = 0 ∨ s = 1) ∧ 0 ≤ b ∧ b ≤ l ∧ l ≤ 4096) (hp6 : l = W) (hp7 : 0 ≤ p ∧ p ≤ q ∧ q ≤ b) (hp8 : 0 ≤ a ∧ a ≤ 18446744073709551615) : Pub Try.prog 14 [.agg (mr W xs ys [.int .i64 s, .int .i64 b, .int .i64 l, .int .i64 p, .int .i64 q]), .int .u64 a] (fun rv => ((a = 0 ∨ (1 ≤ a / 4294967296 ∧ a / 4294967296 ≤ 2 ∧ a / 4294967296 - 1 = s ∧ (oErr W xs ys a) = 0 ∧ (ldw xs ys a / 72057594037927936) ≠ 255) ∨ ((oErr W xs ys a) = 0 ∧ (ldw xs ys a / 72057594037927936) ≠ 255 ∧ 1 ≤ (ldw xs ys (a + 1)) / 4294967296 ∧ (ldw xs ys (a + 1)) / 4294967296 ≤ 2 ∧ (ldw xs ys (a + 1)) / 4294967296 - 1 = s ∧ (oErr W xs ys (ldw xs ys (a + 1))) = 0 ∧ (ldw xs ys a / 72057594037927936) = (ldw xs ys (ldw xs ys (a + 1)) / 72057594037927936) ∧ ((ldw xs ys a / 4294967296) % 16777216) = ((ldw xs ys (ldw xs ys (a + 1)) / 4294967296) % 16777216) ∧ (ldw xs ys a % 4294967296) = (ldw xs ys (ldw xs ys (a + 1)) % 4294967296) ∧ (aF W xs ys s a (ldw xs ys (a + 1)) ((ldw xs ys a / 4294967296) % 16777216) (ldw xs ys a % 4294967296) ((ldw xs ys a / 4294967296) % 16777216)) = 1)) ∧ rv = .bool true) ∨ ((¬ (a = 0 ∨ (1 ≤ a / 4294967296 ∧ a / 4294967296 ≤ 2 ∧ a / 4294967296 - 1 = s ∧ (oErr W xs ys a) = 0 ∧ (ldw xs ys a / 72057594037927936) ≠ 255) ∨ ((oErr W xs ys a) = 0 ∧ (ldw xs ys a / 72057594037927936) ≠ 255 ∧ 1 ≤ (ldw xs ys (a + 1)) / 4294967296 ∧ (ldw xs ys (a + 1)) / 4294967296 ≤ 2 ∧ (ldw xs ys (a + 1)) / 4294967296 - 1 = s ∧ (oErr W xs ys (ldw xs ys (a + 1))) = 0 ∧ (ldw xs ys a / 72057594037927936) = (ldw xs ys (ldw xs ys (a + 1)) / 72057594037927936) ∧ ((ldw xs ys a / 4294967296) % 16777216) = ((ldw xs ys (ldw xs ys (a + 1)) / 4294967296) % 16777216) ∧ (ldw xs ys a % 4294967296) = (ldw xs ys (ldw xs ys (a + 1)) % 4294967296) ∧ (aF W xs ys s a (ldw xs ys (a + 1)) ((ldw xs ys a / 4294967296) % 16777216) (ldw xs ys a % 4294967296) ((ldw xs ys a / 4294967296) % 16777216)) = 1))) ∧ rv = .bool false)) := by
 refine pub_of TT_ok Try.func14 rfl (by decide) (Nat.le_of_ble_eq_true (by kernel_rfl)) (by kernel_rfl) ?_
 refine rg [] 2 ⟨[(4, .f), (2, .p 0), (1, .u a)], [(0, .cells (mr W xs ys [.i s, .i b, .i l, .i p, .i q]) 31)], 1⟩ [] trivial ?_
 refine xw_seq ?_
 refine rg [(1, .bool (a == 0))] 2 ⟨[(25, .bool (a == 0)), (4, .f), (2, .p 0), (1, .u a)], [(0, .cells (mr W xs ys [.i s, .i b, .i l, .i p, .i q]) 31)], 1⟩ [(a == 0) = (a == 0)] ⟨rfl, trivial⟩ ?_
 refine xw_cond (b := (a == 0)) (by kernel_rfl) (fun h0 => ?_) (fun h0 => ?_)
 ·
  replace h0 : a = 0 := eq_of_beq h0
  refine rg [] 1 ⟨[(4, .t), (2, .p 0), (1, .u a)], [(0, .cells (mr W xs ys [.i s, .i b, .i l, .i p, .i q]) 31)], 1⟩ [] trivial ?_
  refine xw_ret ?_
  refine an_ret ?_
  exact bs (.t) (Or.inl <| ⟨(by omega), rfl⟩)
 ·
  replace h0 : a ≠ 0 := ne_of_beq_false h0
  refine xw_skip ?_
  refine an ?_
  refine xw_seq ?_
  refine reg ?_
  refine rk [] 2 0 ⟨[(27, .u a), (26, .agg (mr W xs ys [.i s, .i b, .i l, .i p, .i q])), (4, .f), (2, .p 0), (1, .u a)], [(0, .cells (mr W xs ys [.i s, .i b, .i l, .i p, .i q]) 31)], 1⟩ [True] ⟨trivial, trivial⟩ ?_
  by_cases h1 : 1 ≤ a / 4294967296 ∧ a / 4294967296 ≤ 2 ∧ a / 4294967296 - 1 = s
  ·
   refine pc (rtover_1 W xs ys s b l p q a ‹_› ‹_› ‹_› ‹_› ‹_› ‹_› ‹_› ‹_› ‹_› (by omega)) ?_
   refine rk [] 1 3 ⟨[(5, .t), (4, .f), (2, .p 0), (1, .u a)], [(0, .cells (mr W xs ys [.i s, .i b, .i l, .i p, .i q]) 31)], 1⟩ [] trivial ?_
   refine en ?_
   refine an ?_
   refine xw_seq ?_
   refine xw_seq ?_
   refine reg ?_
   refine rk [] 4 0 ⟨[(32, .u a), (31, .agg (mr W xs ys [.i s, .i b, .i l, .i p, .i q])), (30, .t), (4, .f), (2, .p 0), (1, .u a)], [(0, .cells (mr W xs ys [.i s, .i b, .i l, .i p, .i q]) 31)], 1⟩ [True] ⟨trivial, trivial⟩ ?_
   by_cases h2 : a = 0 ∨ ((oErr W xs ys a) = 0 ∧ (ldw xs ys a / 72057594037927936) ≠ 255 ∧ ((1 ≤ a / 4294967296 ∧ a / 4294967296 ≤ 2 ∧ a / 4294967296 - 1 = s) ∨ (ldw xs ys (a + 1)) ≠ 0))
   ·
    refine pc (rtmade_1 W xs ys s b l p q a ‹_› ‹_› ‹_› ‹_› ‹_› ‹_› ‹_› ‹_› ‹_› (by omega)) ?_
    refine rk [] 1 5 ⟨[(34, .t), (4, .f), (2, .p 0), (1, .u a)], [(0, .cells (mr W xs ys [.i s, .i b, .i l, .i p, .i q]) 31)], 1⟩ [True] ⟨trivial, trivial⟩ ?_
    refine en ?_
    refine an ?_
    refine ct ?_
    refine rg [] 1 ⟨[(4, .t), (2, .p 0), (1, .u a)], [(0, .cells (mr W xs ys [.i s, .i b, .i l, .i p, .i q]) 31)], 1⟩ [] trivial ?_
    refine xw_ret ?_
    refine an_ret ?_
    exact bs (.t) (Or.inl <| ⟨(by omega), rfl⟩)
   ·
    refine pc (rtmade_2 W xs ys s b l p q a ‹_› ‹_› ‹_› ‹_› ‹_› ‹_› ‹_› ‹_› ‹_› (by omega)) ?_
    refine rk [] 1 5 ⟨[(34, .f), (4, .f), (2, .p 0), (1, .u a)], [(0, .cells (mr W xs ys [.i s, .i b, .i l, .i p, .i q]) 31)], 1⟩ [True] ⟨trivial, trivial⟩ ?_
    refine en ?_
    refine an ?_
    refine cf ?_
    refine xw_skip ?_
    refine an ?_
    refine xw_seq ?_
    refine reg ?_
    refine rk [] 3 0 ⟨[(38, .u a), (37, .agg (mm W xs ys)), (4, .f), (2, .p 0), (1, .u a)], [(0, .cells (mr W xs ys [.i s, .i b, .i l, .i p, .i q]) 31)], 1⟩ [True] ⟨trivial, trivial⟩ ?_
    by_cases h3 : ((oErr W xs ys a) = 0) ∧ ((ldw xs ys a / 72057594037927936) ≠ 255)
    ·
     exfalso; first | omega | simp_all | grind
    ·
     by_cases h4 : ((oErr W xs ys a) = 0) ∧ ((ldw xs ys a / 72057594037927936) = 255)
     ·
      refine pc (rotwin_2 W xs ys a ‹_› ‹_› ‹_› ‹_› ‹_› ‹_› (by omega) (by omega)) ?_
      obtain ⟨h5, h6, h7⟩ := oErr_ok W xs ys a (by omega)
      refine rk [] 5 4 ⟨[(7, .i 8), (6, .u 0), (4, .f), (2, .p 0), (1, .u a)], [(0, .cells (mr W xs ys [.i s, .i b, .i l, .i p, .i q]) 31)], 1⟩ [] trivial ?_
      refine en ?_
      refine an ?_
      refine xw_seq ?_
      refine reg ?_
      refine rk [] 2 0 ⟨[(43, .u 0), (42, .agg (mr W xs ys [.i s, .i b, .i l, .i p, .i q])), (7, .i 8), (6, .u 0), (4, .f), (2, .p 0), (1, .u a)], [(0, .cells (mr W xs ys [.i s, .i b, .i l, .i p, .i q]) 31)], 1⟩ [True] ⟨trivial, trivial⟩ ?_
      refine pc (rtover_2 W xs ys s b l p q 0 ‹_› ‹_› ‹_› ‹_› ‹_› ‹_› ‹_› ‹_› (by omega) (by omega)) ?_
      refine rk [] 1 3 ⟨[(8, .f), (7, .i 8), (6, .u 0), (4, .f), (2, .p 0), (1, .u a)], [(0, .cells (mr W xs ys [.i s, .i b, .i l, .i p, .i q]) 31)], 1⟩ [] trivial ?_
      refine en ?_
      refine an ?_
      refine xw_seq ?_
      refine rg [(1, .t)] 6 ⟨[(50, .t), (6, .u 0), (4, .f), (2, .p 0), (1, .u a)], [(0, .cells (mr W xs ys [.i s, .i b, .i l, .i p, .i q]) 31)], 1⟩ [(8 != 0) = true, True] ⟨bne_iff_ne.2 (by omega), trivial, trivial⟩ ?_
      refine ct ?_
      refine rg [] 1 ⟨[(4, .f), (6, .u 0), (2, .p 0), (1, .u a)], [(0, .cells (mr W xs ys [.i s, .i b, .i l, .i p, .i q]) 31)], 1⟩ [] trivial ?_
      refine xw_ret ?_
      refine an_ret ?_
      exact bs (.f) (Or.inr <| ⟨(by omega), rfl⟩)
     ·
      refine pc (rotwin_3 W xs ys a ‹_› ‹_› ‹_› ‹_› ‹_› ‹_› (by omega)) ?_
      have h5 : (oErr W xs ys a) = 2 ∨ (oErr W xs ys a) = 10 := oErr_no W xs ys a (by omega)
      refine rk [] 5 4 ⟨[(7, .i (oErr W xs ys a)), (6, .u 0), (4, .f), (2, .p 0), (1, .u a)], [(0, .cells (mr W xs ys [.i s, .i b, .i l, .i p, .i q]) 31)], 1⟩ [] trivial ?_
      refine en ?_
      refine an ?_
      refine xw_seq ?_
      refine reg ?_
      refine rk [] 2 0 ⟨[(43, .u 0), (42, .agg (mr W xs ys [.i s, .i b, .i l, .i p, .i q])), (7, .i (oErr W xs ys a)), (6, .u 0), (4, .f), (2, .p 0), (1, .u a)], [(0, .cells (mr W xs ys [.i s, .i b, .i l, .i p, .i q]) 31)], 1⟩ [True] ⟨trivial, trivial⟩ ?_
      refine pc (rtover_2 W xs ys s b l p q 0 ‹_› ‹_› ‹_› ‹_› ‹_› ‹_› ‹_› ‹_› (by omega) (by omega)) ?_
      refine rk [] 1 3 ⟨[(8, .f), (7, .i (oErr W xs ys a)), (6, .u 0), (4, .f), (2, .p 0), (1, .u a)], [(0, .cells (mr W xs ys [.i s, .i b, .i l, .i p, .i q]) 31)], 1⟩ [] trivial ?_
      refine en ?_
      refine an ?_
      refine xw_seq ?_
      refine rg [(1, .t)] 6 ⟨[(50, .t), (6, .u 0), (4, .f), (2, .p 0), (1, .u a)], [(0, .cells (mr W xs ys [.i s, .i b, .i l, .i p, .i q]) 31)], 1⟩ [((oErr W xs ys a) != 0) = true, True] ⟨bne_iff_ne.2 (by omega), trivial, trivial⟩ ?_
      refine ct ?_
      refine rg [] 1 ⟨[(4, .f), (6, .u 0), (2, .p 0), (1, .u a)], [(0, .cells (mr W xs ys [.i s, .i b, .i l, .i p, .i q]) 31)], 1⟩ [] trivial ?_
      refine xw_ret ?_
      refine an_ret ?_
      exact bs (.f) (Or.inr <| ⟨(by omega), rfl⟩)
  ·
   refine pc (rtover_2 W xs ys s b l p q a ‹_› ‹_› ‹_› ‹_› ‹_› ‹_› ‹_› ‹_› ‹_› (by omega)) ?_
   refine rk [] 1 3 ⟨[(5, .f), (4, .f), (2, .p 0), (1, .u a)], [(0, .cells (mr W xs ys [.i s, .i b, .i l, .i p, .i q]) 31)], 1⟩ [] trivial ?_
   refine en ?_
   refine an ?_
   refine xw_seq ?_
   refine rg [] 6 ⟨[(34, .f), (4, .f), (2, .p 0), (1, .u a)], [(0, .cells (mr W xs ys [.i s, .i b, .i l, .i p, .i q]) 31)], 1⟩ [True] ⟨trivial, trivial⟩ ?_
   refine cf ?_
   refine xw_skip ?_
   refine an ?_
   refine xw_seq ?_
   refine reg ?_
   refine rk [] 3 0 ⟨[(38, .u a), (37, .agg (mm W xs ys)), (4, .f), (2, .p 0), (1, .u a)], [(0, .cells (mr W xs ys [.i s, .i b, .i l, .i p, .i q]) 31)], 1⟩ [True] ⟨trivial, trivial⟩ ?_
   by_cases h2 : ((oErr W xs ys a) = 0) ∧ ((ldw xs ys a / 72057594037927936) ≠ 255)
   ·
    refine pc (rotwin_1 W xs ys a ‹_› ‹_› ‹_› ‹_› ‹_› ‹_› (by omega) (by omega)) ?_
    obtain ⟨h3, h4, h5⟩ := oErr_ok W xs ys a (by omega)
    have h6 : 0 ≤ (ldw xs ys (a + 1)) ∧ (ldw xs ys (a + 1)) ≤ 18446744073709551615 := ldw_ok xs ys (a + 1) ‹_› ‹_›
    have h7 : 1 ≤ (a + 1) / 4294967296 ∧ (a + 1) / 4294967296 ≤ 2 ∧ (a + 1) % 4294967296 < W := by omega
    refine rk [] 5 4 ⟨[(7, .i 0), (6, .u (ldw xs ys (a + 1))), (4, .f), (2, .p 0), (1, .u a)], [(0, .cells (mr W xs ys [.i s, .i b, .i l, .i p, .i q]) 31)], 1⟩ [] trivial ?_
    refine en ?_
    refine an ?_
    refine xw_seq ?_
    refine reg ?_
    refine rk [] 2 0 ⟨[(43, .u (ldw xs ys (a + 1))), (42, .agg (mr W xs ys [.i s, .i b, .i l, .i p, .i q])), (7, .i 0), (6, .u (ldw xs ys (a + 1))), (4, .f), (2, .p 0), (1, .u a)], [(0, .cells (mr W xs ys [.i s, .i b, .i l, .i p, .i q]) 31)], 1⟩ [True] ⟨trivial, trivial⟩ ?_
    by_cases h8 : 1 ≤ (ldw xs ys (a + 1)) / 4294967296 ∧ (ldw xs ys (a + 1)) / 4294967296 ≤ 2 ∧ (ldw xs ys (a + 1)) / 4294967296 - 1 = s
    ·
     refine pc (rtover_1 W xs ys s b l p q (ldw xs ys (a + 1)) ‹_› ‹_› ‹_› ‹_› ‹_› ‹_› ‹_› ‹_› ‹_› (by omega)) ?_
     refine rk [] 1 3 ⟨[(8, .t), (7, .i 0), (6, .u (ldw xs ys (a + 1))), (4, .f), (2, .p 0), (1, .u a)], [(0, .cells (mr W xs ys [.i s, .i b, .i l, .i p, .i q]) 31)], 1⟩ [] trivial ?_
     refine en ?_
     refine an ?_
     refine xw_seq ?_
     refine rg [(1, .f)] 6 ⟨[(50, .f), (6, .u (ldw xs ys (a + 1))), (4, .f), (2, .p 0), (1, .u a)], [(0, .cells (mr W xs ys [.i s, .i b, .i l, .i p, .i q]) 31)], 1⟩ [(0 != 0) = false, True] ⟨bne_eq_false_iff_eq.2 (by omega), trivial, trivial⟩ ?_
     refine cf ?_
     refine xw_skip ?_
     refine an ?_
     refine xw_seq ?_
     refine reg ?_
     refine rk [] 3 0 ⟨[(54, .u a), (53, .agg (mm W xs ys)), (6, .u (ldw xs ys (a + 1))), (4, .f), (2, .p 0), (1, .u a)], [(0, .cells (mr W xs ys [.i s, .i b, .i l, .i p, .i q]) 31)], 1⟩ [True] ⟨trivial, trivial⟩ ?_
     refine pc (roat_1 W xs ys a ‹_› ‹_› ‹_› ‹_› ‹_› ‹_› (by omega)) ?_
     refine rk [] 6 4 ⟨[(9, .p 1), (6, .u (ldw xs ys (a + 1))), (4, .f), (2, .p 0), (1, .u a)], [(1, .cells [.i (hT xs ys a), .i (hL xs ys a), .u (hM xs ys a)] 37), (0, .cells (mr W xs ys [.i s, .i b, .i l, .i p, .i q]) 31)], 2⟩ [True] ⟨trivial, trivial⟩ ?_
     refine en ?_
     refine an ?_
     refine xw_seq ?_
     refine reg ?_
     refine rk [] 3 0 ⟨[(61, .u (ldw xs ys (a + 1))), (60, .agg (mm W xs ys)), (9, .p 1), (6, .u (ldw xs ys (a + 1))), (4, .f), (2, .p 0), (1, .u a)], [(1, .cells [.i (hT xs ys a), .i (hL xs ys a), .u (hM xs ys a)] 37), (0, .cells (mr W xs ys [.i s, .i b, .i l, .i p, .i q]) 31)], 2⟩ [True] ⟨trivial, trivial⟩ ?_
     by_cases h9 : (oErr W xs ys (ldw xs ys (a + 1))) = 0
     ·
      refine pc (roat_1 W xs ys (ldw xs ys (a + 1)) ‹_› ‹_› ‹_› ‹_› ‹_› ‹_› ‹_›) ?_
      obtain ⟨h10, h11, h12⟩ := oErr_ok W xs ys (ldw xs ys (a + 1)) ‹_›
      refine rk [] 6 4 ⟨[(12, .i 0), (11, .p 2), (9, .p 1), (6, .u (ldw xs ys (a + 1))), (4, .f), (2, .p 0), (1, .u a)], [(2, .cells [.i (hT xs ys (ldw xs ys (a + 1))), .i (hL xs ys (ldw xs ys (a + 1))), .u (hM xs ys (ldw xs ys (a + 1)))] 37), (1, .cells [.i (hT xs ys a), .i (hL xs ys a), .u (hM xs ys a)] 37), (0, .cells (mr W xs ys [.i s, .i b, .i l, .i p, .i q]) 31)], 3⟩ [True] ⟨trivial, trivial⟩ ?_
      refine en ?_
      refine an ?_
      refine xw_seq ?_
      refine rg [(1, .f), (5, .bool (!(((ldw xs ys a / 72057594037927936) == (ldw xs ys (ldw xs ys (a + 1)) / 72057594037927936)) && ((((ldw xs ys a / 4294967296) % 16777216) == ((ldw xs ys (ldw xs ys (a + 1)) / 4294967296) % 16777216)) && (((ldw xs ys a % 4294967296) == (ldw xs ys (ldw xs ys (a + 1)) % 4294967296)) && true)))))] 7 ⟨[(71, .bool (!(((hT xs ys a) == (hT xs ys (ldw xs ys (a + 1)))) && (((hL xs ys a) == (hL xs ys (ldw xs ys (a + 1)))) && (((hM xs ys a) == (hM xs ys (ldw xs ys (a + 1)))) && true))))), (9, .p 1), (6, .u (ldw xs ys (a + 1))), (4, .f), (2, .p 0), (1, .u a)], [(1, .cells [.i (hT xs ys a), .i (hL xs ys a), .u (hM xs ys a)] 37), (0, .cells (mr W xs ys [.i s, .i b, .i l, .i p, .i q]) 31)], 3⟩ [(0 != 0) = false, True, True, (!(((ldw xs ys a / 72057594037927936) == (ldw xs ys (ldw xs ys (a + 1)) / 72057594037927936)) && ((((ldw xs ys a / 4294967296) % 16777216) == ((ldw xs ys (ldw xs ys (a + 1)) / 4294967296) % 16777216)) && (((ldw xs ys a % 4294967296) == (ldw xs ys (ldw xs ys (a + 1)) % 4294967296)) && true)))) = (!(((ldw xs ys a / 72057594037927936) == (ldw xs ys (ldw xs ys (a + 1)) / 72057594037927936)) && ((((ldw xs ys a / 4294967296) % 16777216) == ((ldw xs ys (ldw xs ys (a + 1)) / 4294967296) % 16777216)) && (((ldw xs ys a % 4294967296) == (ldw xs ys (ldw xs ys (a + 1)) % 4294967296)) && true)))), True] ⟨bne_eq_false_iff_eq.2 (by omega), trivial, trivial, rfl, trivial, trivial⟩ ?_
      refine xw_cond (b := (!(((ldw xs ys a / 72057594037927936) == (ldw xs ys (ldw xs ys (a + 1)) / 72057594037927936)) && ((((ldw xs ys a / 4294967296) % 16777216) == ((ldw xs ys (ldw xs ys (a + 1)) / 4294967296) % 16777216)) && (((ldw xs ys a % 4294967296) == (ldw xs ys (ldw xs ys (a + 1)) % 4294967296)) && true))))) (by kernel_rfl) (fun h13 => ?_) (fun h13 => ?_)
      ·
       replace h13 : ¬ (((ldw xs ys a / 72057594037927936) = (ldw xs ys (ldw xs ys (a + 1)) / 72057594037927936)) ∧ ((((ldw xs ys a / 4294967296) % 16777216) = ((ldw xs ys (ldw xs ys (a + 1)) / 4294967296) % 16777216)) ∧ ((ldw xs ys a % 4294967296) = (ldw xs ys (ldw xs ys (a + 1)) % 4294967296)))) := by first | (simp; done) | simpa using h13 | (simp at h13; omega)
       refine rg [] 1 ⟨[(4, .f), (9, .p 1), (6, .u (ldw xs ys (a + 1))), (2, .p 0), (1, .u a)], [(1, .cells [.i (hT xs ys a), .i (hL xs ys a), .u (hM xs ys a)] 37), (0, .cells (mr W xs ys [.i s, .i b, .i l, .i p, .i q]) 31)], 3⟩ [] trivial ?_
       refine xw_ret ?_
       refine an_ret ?_
       exact bs (.f) (Or.inr <| ⟨(by omega), rfl⟩)
      ·
       replace h13 : ((ldw xs ys a / 72057594037927936) = (ldw xs ys (ldw xs ys (a + 1)) / 72057594037927936)) ∧ ((((ldw xs ys a / 4294967296) % 16777216) = ((ldw xs ys (ldw xs ys (a + 1)) / 4294967296) % 16777216)) ∧ ((ldw xs ys a % 4294967296) = (ldw xs ys (ldw xs ys (a + 1)) % 4294967296))) := by first | (simp; done) | simpa using h13
       refine xw_skip ?_
       refine an ?_
       refine xw_seq ?_
       refine rg [] 1 ⟨[(13, .i 0), (9, .p 1), (6, .u (ldw xs ys (a + 1))), (4, .f), (2, .p 0), (1, .u a)], [(1, .cells [.i (hT xs ys a), .i (hL xs ys a), .u (hM xs ys a)] 37), (0, .cells (mr W xs ys [.i s, .i b, .i l, .i p, .i q]) 31)], 3⟩ [] trivial ?_
       refine xw_block ?_
       refine xw_loop (α := {qq : Int // (0 ≤ qq) ∧ (qq ≤ ((ldw xs ys a / 4294967296) % 16777216)) ∧ ((aF W xs ys s a (ldw xs ys (a + 1)) ((ldw xs ys a / 4294967296) % 16777216) (ldw xs ys a % 4294967296) qq) = 1)}) (fun pp => ⟨[(13, .i pp.1), (9, .p 1), (6, .u (ldw xs ys (a + 1))), (4, .f), (2, .p 0), (1, .u a)], [(1, .cells [.i (hT xs ys a), .i (hL xs ys a), .u (hM xs ys a)] 37), (0, .cells (mr W xs ys [.i s, .i b, .i l, .i p, .i q]) 31)], 3⟩) (fun pp => (((ldw xs ys a / 4294967296) % 16777216) - pp.1).toNat) ⟨0, ⟨(by omega), (by omega), (by first | exact aF_0 rfl | exact aF_next (i := i1) ‹_› (by omega) (fF_p (by first | exact .inl ‹_› | exact .inr (.inl (by omega)) | exact .inr (.inr (by omega))) (by omega)) rfl | exact aF_next (i := i1) ‹_› (by omega) (fF_o (by omega) (by omega)) rfl | exact aF_next (i := i1) ‹_› (by omega) (fF_t ‹_› (by omega) (by omega) (by omega) (by omega) (by omega) (by omega)) rfl)⟩⟩ (le_of [] [(0 : Int) = 0, ((ldw xs ys (a + 1)) : Int) = (ldw xs ys (a + 1)), false = false, (a : Int) = a, ((ldw xs ys a / 72057594037927936) : Int) = (ldw xs ys a / 72057594037927936), (((ldw xs ys a / 4294967296) % 16777216) : Int) = ((ldw xs ys a / 4294967296) % 16777216), ((ldw xs ys a % 4294967296) : Int) = (ldw xs ys a % 4294967296), (W : Int) = W, (false = true → false = true), ((m64 xs) : List SV) = (m64 xs), (false = true → false = true), ((m64 ys) : List SV) = (m64 ys), (s : Int) = s, (b : Int) = b, (l : Int) = l, (p : Int) = p, (q : Int) = q] (by kernel_rfl) ⟨rfl, rfl, rfl, rfl, rfl, rfl, rfl, rfl, id, rfl, id, rfl, rfl, rfl, rfl, rfl, rfl, trivial⟩) ?_
       rintro ⟨i1, h14, h15, h16⟩
       show XW _ _ _ _ _ ⟨[(13, .int .i64 i1), (9, .loc 1 0), (6, .int .u64 (ldw xs ys (a + 1))), (4, .bool false), (2, .loc 0 0), (1, .int .u64 a)], [(1, .cells [.int .i64 (ldw xs ys a / 72057594037927936), .int .i64 ((ldw xs ys a / 4294967296) % 16777216), .int .u64 (ldw xs ys a % 4294967296)] 37), (0, .cells (mr W xs ys [.int .i64 s, .int .i64 b, .int .i64 l, .int .i64 p, .int .i64 q]) 31)], 3⟩
       refine xw_seq ?_
       refine rg [(3, .bool (decide (i1 < ((ldw xs ys a / 4294967296) % 16777216))))] 4 ⟨[(75, .bool (decide (i1 < (hL xs ys a)))), (13, .i i1), (9, .p 1), (6, .u (ldw xs ys (a + 1))), (4, .f), (2, .p 0), (1, .u a)], [(1, .cells [.i (hT xs ys a), .i (hL xs ys a), .u (hM xs ys a)] 37), (0, .cells (mr W xs ys [.i s, .i b, .i l, .i p, .i q]) 31)], 3⟩ [True, (decide (i1 < ((ldw xs ys a / 4294967296) % 16777216))) = (decide (i1 < ((ldw xs ys a / 4294967296) % 16777216)))] ⟨trivial, rfl, trivial⟩ ?_
       refine xw_cond (b := (decide (i1 < ((ldw xs ys a / 4294967296) % 16777216)))) (by kernel_rfl) (fun h17 => ?_) (fun h17 => ?_)
       ·
        replace h17 : i1 < ((ldw xs ys a / 4294967296) % 16777216) := of_decide_eq_true h17
        refine xw_skip ?_
        refine an ?_
        refine xw_seq ?_
        refine xw_block ?_
        refine xw_seq ?_
        refine reg ?_
        refine rk [] 4 0 ⟨[(82, .i i1), (81, .u a), (80, .agg (mm W xs ys)), (13, .i i1), (9, .p 1), (6, .u (ldw xs ys (a + 1))), (4, .f), (2, .p 0), (1, .u a)], [(1, .cells [.i (hT xs ys a), .i (hL xs ys a), .u (hM xs ys a)] 37), (0, .cells (mr W xs ys [.i s, .i b, .i l, .i p, .i q]) 31)], 3⟩ [True] ⟨trivial, trivial⟩ ?_
        refine pc (roget_1 W xs ys a i1 ‹_› ‹_› ‹_› ‹_› ‹_› ‹_› (by omega) (by omega) (by omega) (by omega)) ?_
        have h18 : 0 ≤ (ldw xs ys (a + 2 + i1)) ∧ (ldw xs ys (a + 2 + i1)) ≤ 18446744073709551615 := ldw_ok xs ys (a + 2 + i1) ‹_› ‹_›
        have h19 : 1 ≤ (a + 2 + i1) / 4294967296 ∧ (a + 2 + i1) / 4294967296 ≤ 2 ∧ (a + 2 + i1) % 4294967296 < W := by omega
        refine rk [] 7 5 ⟨[(14, .u (ldw xs ys (a + 2 + i1))), (13, .i i1), (9, .p 1), (6, .u (ldw xs ys (a + 1))), (4, .f), (2, .p 0), (1, .u a)], [(1, .cells [.i (hT xs ys a), .i (hL xs ys a), .u (hM xs ys a)] 37), (0, .cells (mr W xs ys [.i s, .i b, .i l, .i p, .i q]) 31)], 3⟩ [] trivial ?_
        refine en ?_
        refine an ?_
        refine xw_seq ?_
        refine reg ?_
        refine rk [] 4 0 ⟨[(91, .i i1), (90, .u (ldw xs ys (a + 1))), (89, .agg (mm W xs ys)), (14, .u (ldw xs ys (a + 2 + i1))), (13, .i i1), (9, .p 1), (6, .u (ldw xs ys (a + 1))), (4, .f), (2, .p 0), (1, .u a)], [(1, .cells [.i (hT xs ys a), .i (hL xs ys a), .u (hM xs ys a)] 37), (0, .cells (mr W xs ys [.i s, .i b, .i l, .i p, .i q]) 31)], 3⟩ [True] ⟨trivial, trivial⟩ ?_
        refine pc (roget_1 W xs ys (ldw xs ys (a + 1)) i1 ‹_› ‹_› ‹_› ‹_› ‹_› ‹_› (by omega) ‹_› (by omega) (by omega)) ?_
        have h20 : 0 ≤ (ldw xs ys ((ldw xs ys (a + 1)) + 2 + i1)) ∧ (ldw xs ys ((ldw xs ys (a + 1)) + 2 + i1)) ≤ 18446744073709551615 := ldw_ok xs ys ((ldw xs ys (a + 1)) + 2 + i1) ‹_› ‹_›
        have h21 : 1 ≤ ((ldw xs ys (a + 1)) + 2 + i1) / 4294967296 ∧ ((ldw xs ys (a + 1)) + 2 + i1) / 4294967296 ≤ 2 ∧ ((ldw xs ys (a + 1)) + 2 + i1) % 4294967296 < W := by omega
        refine rk [] 7 5 ⟨[(17, .u (ldw xs ys ((ldw xs ys (a + 1)) + 2 + i1))), (14, .u (ldw xs ys (a + 2 + i1))), (13, .i i1), (9, .p 1), (6, .u (ldw xs ys (a + 1))), (4, .f), (2, .p 0), (1, .u a)], [(1, .cells [.i (hT xs ys a), .i (hL xs ys a), .u (hM xs ys a)] 37), (0, .cells (mr W xs ys [.i s, .i b, .i l, .i p, .i q]) 31)], 3⟩ [] trivial ?_
        refine en ?_
        refine an ?_
        refine xw_seq ?_
        refine reg ?_
        refine rk [] 2 0 ⟨[(97, .i i1), (96, .agg [.i (hT xs ys a), .i (hL xs ys a), .u (hM xs ys a)]), (17, .u (ldw xs ys ((ldw xs ys (a + 1)) + 2 + i1))), (14, .u (ldw xs ys (a + 2 + i1))), (13, .i i1), (9, .p 1), (6, .u (ldw xs ys (a + 1))), (4, .f), (2, .p 0), (1, .u a)], [(1, .cells [.i (hT xs ys a), .i (hL xs ys a), .u (hM xs ys a)] 37), (0, .cells (mr W xs ys [.i s, .i b, .i l, .i p, .i q]) 31)], 3⟩ [True] ⟨trivial, trivial⟩ ?_
        refine pc (rhpointer (ldw xs ys a / 72057594037927936) ((ldw xs ys a / 4294967296) % 16777216) (ldw xs ys a % 4294967296) i1 (by omega) (by omega) (by omega)) ?_
        refine rk [] 1 3 ⟨[(20, .bool (isPtr (hL xs ys a) (hM xs ys a) i1)), (17, .u (ldw xs ys ((ldw xs ys (a + 1)) + 2 + i1))), (14, .u (ldw xs ys (a + 2 + i1))), (13, .i i1), (9, .p 1), (6, .u (ldw xs ys (a + 1))), (4, .f), (2, .p 0), (1, .u a)], [(1, .cells [.i (hT xs ys a), .i (hL xs ys a), .u (hM xs ys a)] 37), (0, .cells (mr W xs ys [.i s, .i b, .i l, .i p, .i q]) 31)], 3⟩ [] trivial ?_
        refine en ?_
        refine an ?_
        refine xw_seq ?_
        refine xw_seq ?_
        refine reg ?_
        refine rk [] 3 0 ⟨[(101, .bool (!(isPtr (hL xs ys a) (hM xs ys a) i1))), (17, .u (ldw xs ys ((ldw xs ys (a + 1)) + 2 + i1))), (14, .u (ldw xs ys (a + 2 + i1))), (13, .i i1), (9, .p 1), (6, .u (ldw xs ys (a + 1))), (4, .f), (2, .p 0), (1, .u a)], [(1, .cells [.i (hT xs ys a), .i (hL xs ys a), .u (hM xs ys a)] 37), (0, .cells (mr W xs ys [.i s, .i b, .i l, .i p, .i q]) 31)], 3⟩ [] trivial ?_
        refine splitr 101 (x := (!(isPtr ((ldw xs ys a / 4294967296) % 16777216) (ldw xs ys a % 4294967296) i1))) (by kernel_rfl) (fun h22 => ?_) (fun h22 => ?_)
        ·
         replace h22 : isPtr ((ldw xs ys a / 4294967296) % 16777216) (ldw xs ys a % 4294967296) i1 = false := by first | (simp; done) | simpa using h22 | (simp at h22; omega)
         refine rk [] 7 3 ⟨[(108, .t), (17, .u (ldw xs ys ((ldw xs ys (a + 1)) + 2 + i1))), (14, .u (ldw xs ys (a + 2 + i1))), (13, .i i1), (9, .p 1), (6, .u (ldw xs ys (a + 1))), (4, .f), (2, .p 0), (1, .u a)], [(1, .cells [.i (hT xs ys a), .i (hL xs ys a), .u (hM xs ys a)] 37), (0, .cells (mr W xs ys [.i s, .i b, .i l, .i p, .i q]) 31)], 3⟩ [True, True] ⟨trivial, trivial, trivial⟩ ?_
         refine en ?_
         refine an ?_
         refine ct ?_
         refine xw_seq ?_
         refine rg [(2, .bool ((ldw xs ys (a + 2 + i1)) != (ldw xs ys ((ldw xs ys (a + 1)) + 2 + i1))))] 3 ⟨[(111, .bool ((ldw xs ys (a + 2 + i1)) != (ldw xs ys ((ldw xs ys (a + 1)) + 2 + i1)))), (17, .u (ldw xs ys ((ldw xs ys (a + 1)) + 2 + i1))), (14, .u (ldw xs ys (a + 2 + i1))), (13, .i i1), (9, .p 1), (6, .u (ldw xs ys (a + 1))), (4, .f), (2, .p 0), (1, .u a)], [(1, .cells [.i (hT xs ys a), .i (hL xs ys a), .u (hM xs ys a)] 37), (0, .cells (mr W xs ys [.i s, .i b, .i l, .i p, .i q]) 31)], 3⟩ [((ldw xs ys (a + 2 + i1)) != (ldw xs ys ((ldw xs ys (a + 1)) + 2 + i1))) = ((ldw xs ys (a + 2 + i1)) != (ldw xs ys ((ldw xs ys (a + 1)) + 2 + i1)))] ⟨rfl, trivial⟩ ?_
         refine xw_cond (b := ((ldw xs ys (a + 2 + i1)) != (ldw xs ys ((ldw xs ys (a + 1)) + 2 + i1)))) (by kernel_rfl) (fun h23 => ?_) (fun h23 => ?_)
         ·
          replace h23 : (ldw xs ys (a + 2 + i1)) ≠ (ldw xs ys ((ldw xs ys (a + 1)) + 2 + i1)) := bne_iff_ne.1 h23
          refine rg [] 1 ⟨[(4, .f), (17, .u (ldw xs ys ((ldw xs ys (a + 1)) + 2 + i1))), (14, .u (ldw xs ys (a + 2 + i1))), (13, .i i1), (9, .p 1), (6, .u (ldw xs ys (a + 1))), (2, .p 0), (1, .u a)], [(1, .cells [.i (hT xs ys a), .i (hL xs ys a), .u (hM xs ys a)] 37), (0, .cells (mr W xs ys [.i s, .i b, .i l, .i p, .i q]) 31)], 3⟩ [] trivial ?_
          refine xw_ret ?_
          refine an_ret ?_
          refine an_ret ?_
          refine ib_ret ?_
          refine an_ret ?_
          refine ag_ret ?_
          refine ib_ret ?_
          refine an_ret ?_
          exact bs (.f) (Or.inr <| ⟨(by first | rfl | omega | (have hq := aF_eq (n := ((ldw xs ys a / 4294967296) % 16777216)) ‹aF W xs ys s a (ldw xs ys (a + 1)) ((ldw xs ys a / 4294967296) % 16777216) (ldw xs ys a % 4294967296) i1 = 1› (by omega); omega) | (have hq : (aF W xs ys s a (ldw xs ys (a + 1)) ((ldw xs ys a / 4294967296) % 16777216) (ldw xs ys a % 4294967296) ((ldw xs ys a / 4294967296) % 16777216)) = 0 := aF_no (i := i1) (by omega) (by omega) (fF_p0 (by first | exact .inl ‹_› | exact .inr (.inl (by omega)) | exact .inr (.inr (by omega))) (by omega)); omega) | (have hq : (aF W xs ys s a (ldw xs ys (a + 1)) ((ldw xs ys a / 4294967296) % 16777216) (ldw xs ys a % 4294967296) ((ldw xs ys a / 4294967296) % 16777216)) = 0 := aF_no (i := i1) (by omega) (by omega) (fF_o0 ‹_› (by omega) (by omega) (by omega) (by omega)); omega) | (have hq : (aF W xs ys s a (ldw xs ys (a + 1)) ((ldw xs ys a / 4294967296) % 16777216) (ldw xs ys a % 4294967296) ((ldw xs ys a / 4294967296) % 16777216)) = 0 := aF_no (i := i1) (by omega) (by omega) (fF_t0 ‹_› (by omega) (by omega) (by omega) (by omega) (by omega) (by omega)); omega) | (have hq : (aF W xs ys s a (ldw xs ys (a + 1)) ((ldw xs ys a / 4294967296) % 16777216) (ldw xs ys a % 4294967296) ((ldw xs ys a / 4294967296) % 16777216)) = 0 := aF_no (i := i1) (by omega) (by omega) (fF_n0 ‹_› (by omega) (by omega) (by omega) (by omega)); omega)), rfl⟩)
         ·
          replace h23 : (ldw xs ys (a + 2 + i1)) = (ldw xs ys ((ldw xs ys (a + 1)) + 2 + i1)) := bne_eq_false_iff_eq.1 h23
          refine xw_skip ?_
          refine an ?_
          refine xw_exit ?_
          refine an_exit ?_
          refine ib_same ?_
          refine an ?_
          refine re [(1, .i (i1 + 1))] 3 ⟨[(13, .i (i1 + 1)), (9, .p 1), (6, .u (ldw xs ys (a + 1))), (4, .f), (2, .p 0), (1, .u a)], [(1, .cells [.i (hT xs ys a), .i (hL xs ys a), .u (hM xs ys a)] 37), (0, .cells (mr W xs ys [.i s, .i b, .i l, .i p, .i q]) 31)], 3⟩ [IntKind.i64.wrap (i1 + 1) = (i1 + 1)] ⟨i64_eq (by omega) (by omega), trivial⟩ ?_
          exact ag ⟨(i1 + 1), ⟨(by omega), (by omega), (by first | exact aF_0 rfl | exact aF_next (i := i1) ‹_› (by omega) (fF_p (by first | exact .inl ‹_› | exact .inr (.inl (by omega)) | exact .inr (.inr (by omega))) (by omega)) rfl | exact aF_next (i := i1) ‹_› (by omega) (fF_o (by omega) (by omega)) rfl | exact aF_next (i := i1) ‹_› (by omega) (fF_t ‹_› (by omega) (by omega) (by omega) (by omega) (by omega) (by omega)) rfl)⟩⟩ (le_of [] [((i1 + 1) : Int) = (i1 + 1), ((ldw xs ys (a + 1)) : Int) = (ldw xs ys (a + 1)), false = false, (a : Int) = a, ((ldw xs ys a / 72057594037927936) : Int) = (ldw xs ys a / 72057594037927936), (((ldw xs ys a / 4294967296) % 16777216) : Int) = ((ldw xs ys a / 4294967296) % 16777216), ((ldw xs ys a % 4294967296) : Int) = (ldw xs ys a % 4294967296), (W : Int) = W, (false = true → false = true), ((m64 xs) : List SV) = (m64 xs), (false = true → false = true), ((m64 ys) : List SV) = (m64 ys), (s : Int) = s, (b : Int) = b, (l : Int) = l, (p : Int) = p, (q : Int) = q] (by kernel_rfl) ⟨rfl, rfl, rfl, rfl, rfl, rfl, rfl, rfl, id, rfl, id, rfl, rfl, rfl, rfl, rfl, rfl, trivial⟩) (by show (((ldw xs ys a / 4294967296) % 16777216) - (i1 + 1)).toNat < (((ldw xs ys a / 4294967296) % 16777216) - i1).toNat; omega)
        ·
         replace h22 : isPtr ((ldw xs ys a / 4294967296) % 16777216) (ldw xs ys a % 4294967296) i1 = true := by first | (simp; done) | simpa using h22
         refine rk [(4, .bool ((ldw xs ys (a + 2 + i1)) == 0))] 4 3 ⟨[(105, .bool ((ldw xs ys (a + 2 + i1)) == 0)), (17, .u (ldw xs ys ((ldw xs ys (a + 1)) + 2 + i1))), (14, .u (ldw xs ys (a + 2 + i1))), (13, .i i1), (9, .p 1), (6, .u (ldw xs ys (a + 1))), (4, .f), (2, .p 0), (1, .u a)], [(1, .cells [.i (hT xs ys a), .i (hL xs ys a), .u (hM xs ys a)] 37), (0, .cells (mr W xs ys [.i s, .i b, .i l, .i p, .i q]) 31)], 3⟩ [((ldw xs ys (a + 2 + i1)) == 0) = ((ldw xs ys (a + 2 + i1)) == 0), True] ⟨rfl, trivial, trivial⟩ ?_
         refine splitr 105 (x := ((ldw xs ys (a + 2 + i1)) == 0)) (by kernel_rfl) (fun h23 => ?_) (fun h23 => ?_)
         ·
          replace h23 : (ldw xs ys (a + 2 + i1)) = 0 := eq_of_beq h23
          refine rk [] 3 7 ⟨[(108, .t), (17, .u (ldw xs ys ((ldw xs ys (a + 1)) + 2 + i1))), (14, .u (ldw xs ys (a + 2 + i1))), (13, .i i1), (9, .p 1), (6, .u (ldw xs ys (a + 1))), (4, .f), (2, .p 0), (1, .u a)], [(1, .cells [.i (hT xs ys a), .i (hL xs ys a), .u (hM xs ys a)] 37), (0, .cells (mr W xs ys [.i s, .i b, .i l, .i p, .i q]) 31)], 3⟩ [True] ⟨trivial, trivial⟩ ?_
          refine en ?_
          refine an ?_
          refine ct ?_
          refine xw_seq ?_
          refine rg [(2, .bool ((ldw xs ys (a + 2 + i1)) != (ldw xs ys ((ldw xs ys (a + 1)) + 2 + i1))))] 3 ⟨[(111, .bool ((ldw xs ys (a + 2 + i1)) != (ldw xs ys ((ldw xs ys (a + 1)) + 2 + i1)))), (17, .u (ldw xs ys ((ldw xs ys (a + 1)) + 2 + i1))), (14, .u (ldw xs ys (a + 2 + i1))), (13, .i i1), (9, .p 1), (6, .u (ldw xs ys (a + 1))), (4, .f), (2, .p 0), (1, .u a)], [(1, .cells [.i (hT xs ys a), .i (hL xs ys a), .u (hM xs ys a)] 37), (0, .cells (mr W xs ys [.i s, .i b, .i l, .i p, .i q]) 31)], 3⟩ [((ldw xs ys (a + 2 + i1)) != (ldw xs ys ((ldw xs ys (a + 1)) + 2 + i1))) = ((ldw xs ys (a + 2 + i1)) != (ldw xs ys ((ldw xs ys (a + 1)) + 2 + i1)))] ⟨rfl, trivial⟩ ?_
          refine xw_cond (b := ((ldw xs ys (a + 2 + i1)) != (ldw xs ys ((ldw xs ys (a + 1)) + 2 + i1)))) (by kernel_rfl) (fun h24 => ?_) (fun h24 => ?_)
          ·
           replace h24 : (ldw xs ys (a + 2 + i1)) ≠ (ldw xs ys ((ldw xs ys (a + 1)) + 2 + i1)) := bne_iff_ne.1 h24
           refine rg [] 1 ⟨[(4, .f), (17, .u (ldw xs ys ((ldw xs ys (a + 1)) + 2 + i1))), (14, .u (ldw xs ys (a + 2 + i1))), (13, .i i1), (9, .p 1), (6, .u (ldw xs ys (a + 1))), (2, .p 0), (1, .u a)], [(1, .cells [.i (hT xs ys a), .i (hL xs ys a), .u (hM xs ys a)] 37), (0, .cells (mr W xs ys [.i s, .i b, .i l, .i p, .i q]) 31)], 3⟩ [] trivial ?_
           refine xw_ret ?_
           refine an_ret ?_
           refine an_ret ?_
           refine ib_ret ?_
           refine an_ret ?_
           refine ag_ret ?_
           refine ib_ret ?_
           refine an_ret ?_
           exact bs (.f) (Or.inr <| ⟨(by first | rfl | omega | (have hq := aF_eq (n := ((ldw xs ys a / 4294967296) % 16777216)) ‹aF W xs ys s a (ldw xs ys (a + 1)) ((ldw xs ys a / 4294967296) % 16777216) (ldw xs ys a % 4294967296) i1 = 1› (by omega); omega) | (have hq : (aF W xs ys s a (ldw xs ys (a + 1)) ((ldw xs ys a / 4294967296) % 16777216) (ldw xs ys a % 4294967296) ((ldw xs ys a / 4294967296) % 16777216)) = 0 := aF_no (i := i1) (by omega) (by omega) (fF_p0 (by first | exact .inl ‹_› | exact .inr (.inl (by omega)) | exact .inr (.inr (by omega))) (by omega)); omega) | (have hq : (aF W xs ys s a (ldw xs ys (a + 1)) ((ldw xs ys a / 4294967296) % 16777216) (ldw xs ys a % 4294967296) ((ldw xs ys a / 4294967296) % 16777216)) = 0 := aF_no (i := i1) (by omega) (by omega) (fF_o0 ‹_› (by omega) (by omega) (by omega) (by omega)); omega) | (have hq : (aF W xs ys s a (ldw xs ys (a + 1)) ((ldw xs ys a / 4294967296) % 16777216) (ldw xs ys a % 4294967296) ((ldw xs ys a / 4294967296) % 16777216)) = 0 := aF_no (i := i1) (by omega) (by omega) (fF_t0 ‹_› (by omega) (by omega) (by omega) (by omega) (by omega) (by omega)); omega) | (have hq : (aF W xs ys s a (ldw xs ys (a + 1)) ((ldw xs ys a / 4294967296) % 16777216) (ldw xs ys a % 4294967296) ((ldw xs ys a / 4294967296) % 16777216)) = 0 := aF_no (i := i1) (by omega) (by omega) (fF_n0 ‹_› (by omega) (by omega) (by omega) (by omega)); omega)), rfl⟩)
          ·
           replace h24 : (ldw xs ys (a + 2 + i1)) = (ldw xs ys ((ldw xs ys (a + 1)) + 2 + i1)) := bne_eq_false_iff_eq.1 h24
           refine xw_skip ?_
           refine an ?_
           refine xw_exit ?_
           refine an_exit ?_
           refine ib_same ?_
           refine an ?_
           refine re [(1, .i (i1 + 1))] 3 ⟨[(13, .i (i1 + 1)), (9, .p 1), (6, .u (ldw xs ys (a + 1))), (4, .f), (2, .p 0), (1, .u a)], [(1, .cells [.i (hT xs ys a), .i (hL xs ys a), .u (hM xs ys a)] 37), (0, .cells (mr W xs ys [.i s, .i b, .i l, .i p, .i q]) 31)], 3⟩ [IntKind.i64.wrap (i1 + 1) = (i1 + 1)] ⟨i64_eq (by omega) (by omega), trivial⟩ ?_
           exact ag ⟨(i1 + 1), ⟨(by omega), (by omega), (by first | exact aF_0 rfl | exact aF_next (i := i1) ‹_› (by omega) (fF_p (by first | exact .inl ‹_› | exact .inr (.inl (by omega)) | exact .inr (.inr (by omega))) (by omega)) rfl | exact aF_next (i := i1) ‹_› (by omega) (fF_o (by omega) (by omega)) rfl | exact aF_next (i := i1) ‹_› (by omega) (fF_t ‹_› (by omega) (by omega) (by omega) (by omega) (by omega) (by omega)) rfl)⟩⟩ (le_of [] [((i1 + 1) : Int) = (i1 + 1), ((ldw xs ys (a + 1)) : Int) = (ldw xs ys (a + 1)), false = false, (a : Int) = a, ((ldw xs ys a / 72057594037927936) : Int) = (ldw xs ys a / 72057594037927936), (((ldw xs ys a / 4294967296) % 16777216) : Int) = ((ldw xs ys a / 4294967296) % 16777216), ((ldw xs ys a % 4294967296) : Int) = (ldw xs ys a % 4294967296), (W : Int) = W, (false = true → false = true), ((m64 xs) : List SV) = (m64 xs), (false = true → false = true), ((m64 ys) : List SV) = (m64 ys), (s : Int) = s, (b : Int) = b, (l : Int) = l, (p : Int) = p, (q : Int) = q] (by kernel_rfl) ⟨rfl, rfl, rfl, rfl, rfl, rfl, rfl, rfl, id, rfl, id, rfl, rfl, rfl, rfl, rfl, rfl, trivial⟩) (by show (((ldw xs ys a / 4294967296) % 16777216) - (i1 + 1)).toNat < (((ldw xs ys a / 4294967296) % 16777216) - i1).toNat; omega)
         ·
          replace h23 : (ldw xs ys (a + 2 + i1)) ≠ 0 := ne_of_beq_false h23
          refine rk [(8, .bool ((ldw xs ys ((ldw xs ys (a + 1)) + 2 + i1)) == 0))] 3 7 ⟨[(108, .bool ((ldw xs ys ((ldw xs ys (a + 1)) + 2 + i1)) == 0)), (17, .u (ldw xs ys ((ldw xs ys (a + 1)) + 2 + i1))), (14, .u (ldw xs ys (a + 2 + i1))), (13, .i i1), (9, .p 1), (6, .u (ldw xs ys (a + 1))), (4, .f), (2, .p 0), (1, .u a)], [(1, .cells [.i (hT xs ys a), .i (hL xs ys a), .u (hM xs ys a)] 37), (0, .cells (mr W xs ys [.i s, .i b, .i l, .i p, .i q]) 31)], 3⟩ [((ldw xs ys ((ldw xs ys (a + 1)) + 2 + i1)) == 0) = ((ldw xs ys ((ldw xs ys (a + 1)) + 2 + i1)) == 0), True] ⟨rfl, trivial, trivial⟩ ?_
          refine en ?_
          refine an ?_
          refine xw_cond (b := ((ldw xs ys ((ldw xs ys (a + 1)) + 2 + i1)) == 0)) (by kernel_rfl) (fun h24 => ?_) (fun h24 => ?_)
          ·
           replace h24 : (ldw xs ys ((ldw xs ys (a + 1)) + 2 + i1)) = 0 := eq_of_beq h24
           refine xw_seq ?_
           refine rg [(2, .t)] 3 ⟨[(111, .t), (17, .u (ldw xs ys ((ldw xs ys (a + 1)) + 2 + i1))), (14, .u (ldw xs ys (a + 2 + i1))), (13, .i i1), (9, .p 1), (6, .u (ldw xs ys (a + 1))), (4, .f), (2, .p 0), (1, .u a)], [(1, .cells [.i (hT xs ys a), .i (hL xs ys a), .u (hM xs ys a)] 37), (0, .cells (mr W xs ys [.i s, .i b, .i l, .i p, .i q]) 31)], 3⟩ [((ldw xs ys (a + 2 + i1)) != (ldw xs ys ((ldw xs ys (a + 1)) + 2 + i1))) = true] ⟨bne_iff_ne.2 (by omega), trivial⟩ ?_
           refine ct ?_
           refine rg [] 1 ⟨[(4, .f), (17, .u (ldw xs ys ((ldw xs ys (a + 1)) + 2 + i1))), (14, .u (ldw xs ys (a + 2 + i1))), (13, .i i1), (9, .p 1), (6, .u (ldw xs ys (a + 1))), (2, .p 0), (1, .u a)], [(1, .cells [.i (hT xs ys a), .i (hL xs ys a), .u (hM xs ys a)] 37), (0, .cells (mr W xs ys [.i s, .i b, .i l, .i p, .i q]) 31)], 3⟩ [] trivial ?_
           refine xw_ret ?_
           refine an_ret ?_
           refine an_ret ?_
           refine ib_ret ?_
           refine an_ret ?_
           refine ag_ret ?_
           refine ib_ret ?_
           refine an_ret ?_
           exact bs (.f) (Or.inr <| ⟨(by first | rfl | omega | (have hq := aF_eq (n := ((ldw xs ys a / 4294967296) % 16777216)) ‹aF W xs ys s a (ldw xs ys (a + 1)) ((ldw xs ys a / 4294967296) % 16777216) (ldw xs ys a % 4294967296) i1 = 1› (by omega); omega) | (have hq : (aF W xs ys s a (ldw xs ys (a + 1)) ((ldw xs ys a / 4294967296) % 16777216) (ldw xs ys a % 4294967296) ((ldw xs ys a / 4294967296) % 16777216)) = 0 := aF_no (i := i1) (by omega) (by omega) (fF_p0 (by first | exact .inl ‹_› | exact .inr (.inl (by omega)) | exact .inr (.inr (by omega))) (by omega)); omega) | (have hq : (aF W xs ys s a (ldw xs ys (a + 1)) ((ldw xs ys a / 4294967296) % 16777216) (ldw xs ys a % 4294967296) ((ldw xs ys a / 4294967296) % 16777216)) = 0 := aF_no (i := i1) (by omega) (by omega) (fF_o0 ‹_› (by omega) (by omega) (by omega) (by omega)); omega) | (have hq : (aF W xs ys s a (ldw xs ys (a + 1)) ((ldw xs ys a / 4294967296) % 16777216) (ldw xs ys a % 4294967296) ((ldw xs ys a / 4294967296) % 16777216)) = 0 := aF_no (i := i1) (by omega) (by omega) (fF_t0 ‹_› (by omega) (by omega) (by omega) (by omega) (by omega) (by omega)); omega) | (have hq : (aF W xs ys s a (ldw xs ys (a + 1)) ((ldw xs ys a / 4294967296) % 16777216) (ldw xs ys a % 4294967296) ((ldw xs ys a / 4294967296) % 16777216)) = 0 := aF_no (i := i1) (by omega) (by omega) (fF_n0 ‹_› (by omega) (by omega) (by omega) (by omega)); omega)), rfl⟩)
          ·
           replace h24 : (ldw xs ys ((ldw xs ys (a + 1)) + 2 + i1)) ≠ 0 := ne_of_beq_false h24
           refine xw_skip ?_
           refine an ?_
           refine xw_seq ?_
           refine reg ?_
           refine rk [] 3 0 ⟨[(115, .u (ldw xs ys (a + 2 + i1))), (114, .agg (mm W xs ys)), (17, .u (ldw xs ys ((ldw xs ys (a + 1)) + 2 + i1))), (14, .u (ldw xs ys (a + 2 + i1))), (13, .i i1), (9, .p 1), (6, .u (ldw xs ys (a + 1))), (4, .f), (2, .p 0), (1, .u a)], [(1, .cells [.i (hT xs ys a), .i (hL xs ys a), .u (hM xs ys a)] 37), (0, .cells (mr W xs ys [.i s, .i b, .i l, .i p, .i q]) 31)], 3⟩ [True] ⟨trivial, trivial⟩ ?_
           by_cases h25 : ((oErr W xs ys (ldw xs ys (a + 2 + i1))) = 0) ∧ ((ldw xs ys (ldw xs ys (a + 2 + i1)) / 72057594037927936) ≠ 255)
           ·
            refine pc (rotwin_1 W xs ys (ldw xs ys (a + 2 + i1)) ‹_› ‹_› ‹_› ‹_› ‹_› ‹_› (by omega) (by omega)) ?_
            obtain ⟨h26, h27, h28⟩ := oErr_ok W xs ys (ldw xs ys (a + 2 + i1)) (by omega)
            have h29 : 0 ≤ (ldw xs ys ((ldw xs ys (a + 2 + i1)) + 1)) ∧ (ldw xs ys ((ldw xs ys (a + 2 + i1)) + 1)) ≤ 18446744073709551615 := ldw_ok xs ys ((ldw xs ys (a + 2 + i1)) + 1) ‹_› ‹_›
            have h30 : 1 ≤ ((ldw xs ys (a + 2 + i1)) + 1) / 4294967296 ∧ ((ldw xs ys (a + 2 + i1)) + 1) / 4294967296 ≤ 2 ∧ ((ldw xs ys (a + 2 + i1)) + 1) % 4294967296 < W := by omega
            refine rk [] 5 4 ⟨[(21, .u (ldw xs ys ((ldw xs ys (a + 2 + i1)) + 1))), (17, .u (ldw xs ys ((ldw xs ys (a + 1)) + 2 + i1))), (14, .u (ldw xs ys (a + 2 + i1))), (13, .i i1), (9, .p 1), (6, .u (ldw xs ys (a + 1))), (4, .f), (2, .p 0), (1, .u a)], [(1, .cells [.i (hT xs ys a), .i (hL xs ys a), .u (hM xs ys a)] 37), (0, .cells (mr W xs ys [.i s, .i b, .i l, .i p, .i q]) 31)], 3⟩ [] trivial ?_
            refine en ?_
            refine an ?_
            refine xw_seq ?_
            refine reg ?_
            refine rk [] 2 0 ⟨[(120, .u (ldw xs ys (a + 2 + i1))), (119, .agg (mr W xs ys [.i s, .i b, .i l, .i p, .i q])), (21, .u (ldw xs ys ((ldw xs ys (a + 2 + i1)) + 1))), (17, .u (ldw xs ys ((ldw xs ys (a + 1)) + 2 + i1))), (14, .u (ldw xs ys (a + 2 + i1))), (13, .i i1), (9, .p 1), (6, .u (ldw xs ys (a + 1))), (4, .f), (2, .p 0), (1, .u a)], [(1, .cells [.i (hT xs ys a), .i (hL xs ys a), .u (hM xs ys a)] 37), (0, .cells (mr W xs ys [.i s, .i b, .i l, .i p, .i q]) 31)], 3⟩ [True] ⟨trivial, trivial⟩ ?_
            by_cases h31 : 1 ≤ (ldw xs ys (a + 2 + i1)) / 4294967296 ∧ (ldw xs ys (a + 2 + i1)) / 4294967296 ≤ 2 ∧ (ldw xs ys (a + 2 + i1)) / 4294967296 - 1 = s
            ·
             refine pc (rtover_1 W xs ys s b l p q (ldw xs ys (a + 2 + i1)) ‹_› ‹_› ‹_› ‹_› ‹_› ‹_› ‹_› ‹_› ‹_› (by omega)) ?_
             refine rk [] 1 3 ⟨[(23, .t), (21, .u (ldw xs ys ((ldw xs ys (a + 2 + i1)) + 1))), (17, .u (ldw xs ys ((ldw xs ys (a + 1)) + 2 + i1))), (14, .u (ldw xs ys (a + 2 + i1))), (13, .i i1), (9, .p 1), (6, .u (ldw xs ys (a + 1))), (4, .f), (2, .p 0), (1, .u a)], [(1, .cells [.i (hT xs ys a), .i (hL xs ys a), .u (hM xs ys a)] 37), (0, .cells (mr W xs ys [.i s, .i b, .i l, .i p, .i q]) 31)], 3⟩ [] trivial ?_
             refine en ?_
             refine an ?_
             refine xw_seq ?_
             refine reg ?_
             refine rk [(4, .bool ((ldw xs ys (a + 2 + i1)) != (ldw xs ys ((ldw xs ys (a + 1)) + 2 + i1))))] 7 0 ⟨[(128, .bool ((ldw xs ys (a + 2 + i1)) != (ldw xs ys ((ldw xs ys (a + 1)) + 2 + i1)))), (23, .t), (21, .u (ldw xs ys ((ldw xs ys (a + 2 + i1)) + 1))), (17, .u (ldw xs ys ((ldw xs ys (a + 1)) + 2 + i1))), (13, .i i1), (9, .p 1), (6, .u (ldw xs ys (a + 1))), (4, .f), (2, .p 0), (1, .u a)], [(1, .cells [.i (hT xs ys a), .i (hL xs ys a), .u (hM xs ys a)] 37), (0, .cells (mr W xs ys [.i s, .i b, .i l, .i p, .i q]) 31)], 3⟩ [((ldw xs ys (a + 2 + i1)) != (ldw xs ys ((ldw xs ys (a + 1)) + 2 + i1))) = ((ldw xs ys (a + 2 + i1)) != (ldw xs ys ((ldw xs ys (a + 1)) + 2 + i1))), True] ⟨rfl, trivial, trivial⟩ ?_
             refine splitr 128 (x := ((ldw xs ys (a + 2 + i1)) != (ldw xs ys ((ldw xs ys (a + 1)) + 2 + i1)))) (by kernel_rfl) (fun h32 => ?_) (fun h32 => ?_)
             ·
              replace h32 : (ldw xs ys (a + 2 + i1)) ≠ (ldw xs ys ((ldw xs ys (a + 1)) + 2 + i1)) := bne_iff_ne.1 h32
              refine rk [] 8 7 ⟨[(136, .t), (13, .i i1), (9, .p 1), (6, .u (ldw xs ys (a + 1))), (4, .f), (2, .p 0), (1, .u a)], [(1, .cells [.i (hT xs ys a), .i (hL xs ys a), .u (hM xs ys a)] 37), (0, .cells (mr W xs ys [.i s, .i b, .i l, .i p, .i q]) 31)], 3⟩ [True] ⟨trivial, trivial⟩ ?_
              refine en ?_
              refine an ?_
              refine ct ?_
              refine rg [] 1 ⟨[(4, .f), (13, .i i1), (9, .p 1), (6, .u (ldw xs ys (a + 1))), (2, .p 0), (1, .u a)], [(1, .cells [.i (hT xs ys a), .i (hL xs ys a), .u (hM xs ys a)] 37), (0, .cells (mr W xs ys [.i s, .i b, .i l, .i p, .i q]) 31)], 3⟩ [] trivial ?_
              refine xw_ret ?_
              refine ib_ret ?_
              refine an_ret ?_
              refine ag_ret ?_
              refine ib_ret ?_
              refine an_ret ?_
              exact bs (.f) (Or.inr <| ⟨(by first | rfl | omega | (have hq := aF_eq (n := ((ldw xs ys a / 4294967296) % 16777216)) ‹aF W xs ys s a (ldw xs ys (a + 1)) ((ldw xs ys a / 4294967296) % 16777216) (ldw xs ys a % 4294967296) i1 = 1› (by omega); omega) | (have hq : (aF W xs ys s a (ldw xs ys (a + 1)) ((ldw xs ys a / 4294967296) % 16777216) (ldw xs ys a % 4294967296) ((ldw xs ys a / 4294967296) % 16777216)) = 0 := aF_no (i := i1) (by omega) (by omega) (fF_p0 (by first | exact .inl ‹_› | exact .inr (.inl (by omega)) | exact .inr (.inr (by omega))) (by omega)); omega) | (have hq : (aF W xs ys s a (ldw xs ys (a + 1)) ((ldw xs ys a / 4294967296) % 16777216) (ldw xs ys a % 4294967296) ((ldw xs ys a / 4294967296) % 16777216)) = 0 := aF_no (i := i1) (by omega) (by omega) (fF_o0 ‹_› (by omega) (by omega) (by omega) (by omega)); omega) | (have hq : (aF W xs ys s a (ldw xs ys (a + 1)) ((ldw xs ys a / 4294967296) % 16777216) (ldw xs ys a % 4294967296) ((ldw xs ys a / 4294967296) % 16777216)) = 0 := aF_no (i := i1) (by omega) (by omega) (fF_t0 ‹_› (by omega) (by omega) (by omega) (by omega) (by omega) (by omega)); omega) | (have hq : (aF W xs ys s a (ldw xs ys (a + 1)) ((ldw xs ys a / 4294967296) % 16777216) (ldw xs ys a % 4294967296) ((ldw xs ys a / 4294967296) % 16777216)) = 0 := aF_no (i := i1) (by omega) (by omega) (fF_n0 ‹_› (by omega) (by omega) (by omega) (by omega)); omega)), rfl⟩)
             ·
              replace h32 : (ldw xs ys (a + 2 + i1)) = (ldw xs ys ((ldw xs ys (a + 1)) + 2 + i1)) := bne_eq_false_iff_eq.1 h32
              refine rk [] 8 7 ⟨[(136, .f), (13, .i i1), (9, .p 1), (6, .u (ldw xs ys (a + 1))), (4, .f), (2, .p 0), (1, .u a)], [(1, .cells [.i (hT xs ys a), .i (hL xs ys a), .u (hM xs ys a)] 37), (0, .cells (mr W xs ys [.i s, .i b, .i l, .i p, .i q]) 31)], 3⟩ [True, True] ⟨trivial, trivial, trivial⟩ ?_
              refine en ?_
              refine an ?_
              refine cf ?_
              refine xw_skip ?_
              refine ib ?_
              refine an ?_
              refine re [(1, .i (i1 + 1))] 3 ⟨[(13, .i (i1 + 1)), (9, .p 1), (6, .u (ldw xs ys (a + 1))), (4, .f), (2, .p 0), (1, .u a)], [(1, .cells [.i (hT xs ys a), .i (hL xs ys a), .u (hM xs ys a)] 37), (0, .cells (mr W xs ys [.i s, .i b, .i l, .i p, .i q]) 31)], 3⟩ [IntKind.i64.wrap (i1 + 1) = (i1 + 1)] ⟨i64_eq (by omega) (by omega), trivial⟩ ?_
              exact ag ⟨(i1 + 1), ⟨(by omega), (by omega), (by first | exact aF_0 rfl | exact aF_next (i := i1) ‹_› (by omega) (fF_p (by first | exact .inl ‹_› | exact .inr (.inl (by omega)) | exact .inr (.inr (by omega))) (by omega)) rfl | exact aF_next (i := i1) ‹_› (by omega) (fF_o (by omega) (by omega)) rfl | exact aF_next (i := i1) ‹_› (by omega) (fF_t ‹_› (by omega) (by omega) (by omega) (by omega) (by omega) (by omega)) rfl)⟩⟩ (le_of [] [((i1 + 1) : Int) = (i1 + 1), ((ldw xs ys (a + 1)) : Int) = (ldw xs ys (a + 1)), false = false, (a : Int) = a, ((ldw xs ys a / 72057594037927936) : Int) = (ldw xs ys a / 72057594037927936), (((ldw xs ys a / 4294967296) % 16777216) : Int) = ((ldw xs ys a / 4294967296) % 16777216), ((ldw xs ys a % 4294967296) : Int) = (ldw xs ys a % 4294967296), (W : Int) = W, (false = true → false = true), ((m64 xs) : List SV) = (m64 xs), (false = true → false = true), ((m64 ys) : List SV) = (m64 ys), (s : Int) = s, (b : Int) = b, (l : Int) = l, (p : Int) = p, (q : Int) = q] (by kernel_rfl) ⟨rfl, rfl, rfl, rfl, rfl, rfl, rfl, rfl, id, rfl, id, rfl, rfl, rfl, rfl, rfl, rfl, trivial⟩) (by show (((ldw xs ys a / 4294967296) % 16777216) - (i1 + 1)).toNat < (((ldw xs ys a / 4294967296) % 16777216) - i1).toNat; omega)
            ·
             refine pc (rtover_2 W xs ys s b l p q (ldw xs ys (a + 2 + i1)) ‹_› ‹_› ‹_› ‹_› ‹_› ‹_› ‹_› ‹_› ‹_› (by omega)) ?_
             refine rk [] 1 3 ⟨[(23, .f), (21, .u (ldw xs ys ((ldw xs ys (a + 2 + i1)) + 1))), (17, .u (ldw xs ys ((ldw xs ys (a + 1)) + 2 + i1))), (14, .u (ldw xs ys (a + 2 + i1))), (13, .i i1), (9, .p 1), (6, .u (ldw xs ys (a + 1))), (4, .f), (2, .p 0), (1, .u a)], [(1, .cells [.i (hT xs ys a), .i (hL xs ys a), .u (hM xs ys a)] 37), (0, .cells (mr W xs ys [.i s, .i b, .i l, .i p, .i q]) 31)], 3⟩ [] trivial ?_
             refine en ?_
             refine an ?_
             refine rg [(12, .bool ((ldw xs ys ((ldw xs ys (a + 2 + i1)) + 1)) != (ldw xs ys ((ldw xs ys (a + 1)) + 2 + i1))))] 15 ⟨[(136, .bool ((ldw xs ys ((ldw xs ys (a + 2 + i1)) + 1)) != (ldw xs ys ((ldw xs ys (a + 1)) + 2 + i1)))), (13, .i i1), (9, .p 1), (6, .u (ldw xs ys (a + 1))), (4, .f), (2, .p 0), (1, .u a)], [(1, .cells [.i (hT xs ys a), .i (hL xs ys a), .u (hM xs ys a)] 37), (0, .cells (mr W xs ys [.i s, .i b, .i l, .i p, .i q]) 31)], 3⟩ [True, ((ldw xs ys ((ldw xs ys (a + 2 + i1)) + 1)) != (ldw xs ys ((ldw xs ys (a + 1)) + 2 + i1))) = ((ldw xs ys ((ldw xs ys (a + 2 + i1)) + 1)) != (ldw xs ys ((ldw xs ys (a + 1)) + 2 + i1))), True, True] ⟨trivial, rfl, trivial, trivial, trivial⟩ ?_
             refine xw_cond (b := ((ldw xs ys ((ldw xs ys (a + 2 + i1)) + 1)) != (ldw xs ys ((ldw xs ys (a + 1)) + 2 + i1)))) (by kernel_rfl) (fun h32 => ?_) (fun h32 => ?_)
             ·
              replace h32 : (ldw xs ys ((ldw xs ys (a + 2 + i1)) + 1)) ≠ (ldw xs ys ((ldw xs ys (a + 1)) + 2 + i1)) := bne_iff_ne.1 h32
              refine rg [] 1 ⟨[(4, .f), (13, .i i1), (9, .p 1), (6, .u (ldw xs ys (a + 1))), (2, .p 0), (1, .u a)], [(1, .cells [.i (hT xs ys a), .i (hL xs ys a), .u (hM xs ys a)] 37), (0, .cells (mr W xs ys [.i s, .i b, .i l, .i p, .i q]) 31)], 3⟩ [] trivial ?_
              refine xw_ret ?_
              refine ib_ret ?_
              refine an_ret ?_
              refine ag_ret ?_
              refine ib_ret ?_
              refine an_ret ?_
              exact bs (.f) (Or.inr <| ⟨(by first | rfl | omega | (have hq := aF_eq (n := ((ldw xs ys a / 4294967296) % 16777216)) ‹aF W xs ys s a (ldw xs ys (a + 1)) ((ldw xs ys a / 4294967296) % 16777216) (ldw xs ys a % 4294967296) i1 = 1› (by omega); omega) | (have hq : (aF W xs ys s a (ldw xs ys (a + 1)) ((ldw xs ys a / 4294967296) % 16777216) (ldw xs ys a % 4294967296) ((ldw xs ys a / 4294967296) % 16777216)) = 0 := aF_no (i := i1) (by omega) (by omega) (fF_p0 (by first | exact .inl ‹_› | exact .inr (.inl (by omega)) | exact .inr (.inr (by omega))) (by omega)); omega) | (have hq : (aF W xs ys s a (ldw xs ys (a + 1)) ((ldw xs ys a / 4294967296) % 16777216) (ldw xs ys a % 4294967296) ((ldw xs ys a / 4294967296) % 16777216)) = 0 := aF_no (i := i1) (by omega) (by omega) (fF_o0 ‹_› (by omega) (by omega) (by omega) (by omega)); omega) | (have hq : (aF W xs ys s a (ldw xs ys (a + 1)) ((ldw xs ys a / 4294967296) % 16777216) (ldw xs ys a % 4294967296) ((ldw xs ys a / 4294967296) % 16777216)) = 0 := aF_no (i := i1) (by omega) (by omega) (fF_t0 ‹_› (by omega) (by omega) (by omega) (by omega) (by omega) (by omega)); omega) | (have hq : (aF W xs ys s a (ldw xs ys (a + 1)) ((ldw xs ys a / 4294967296) % 16777216) (ldw xs ys a % 4294967296) ((ldw xs ys a / 4294967296) % 16777216)) = 0 := aF_no (i := i1) (by omega) (by omega) (fF_n0 ‹_› (by omega) (by omega) (by omega) (by omega)); omega)), rfl⟩)
             ·
              replace h32 : (ldw xs ys ((ldw xs ys (a + 2 + i1)) + 1)) = (ldw xs ys ((ldw xs ys (a + 1)) + 2 + i1)) := bne_eq_false_iff_eq.1 h32
              refine xw_skip ?_
              refine ib ?_
              refine an ?_
              refine re [(1, .i (i1 + 1))] 3 ⟨[(13, .i (i1 + 1)), (9, .p 1), (6, .u (ldw xs ys (a + 1))), (4, .f), (2, .p 0), (1, .u a)], [(1, .cells [.i (hT xs ys a), .i (hL xs ys a), .u (hM xs ys a)] 37), (0, .cells (mr W xs ys [.i s, .i b, .i l, .i p, .i q]) 31)], 3⟩ [IntKind.i64.wrap (i1 + 1) = (i1 + 1)] ⟨i64_eq (by omega) (by omega), trivial⟩ ?_
              exact ag ⟨(i1 + 1), ⟨(by omega), (by omega), (by first | exact aF_0 rfl | exact aF_next (i := i1) ‹_› (by omega) (fF_p (by first | exact .inl ‹_› | exact .inr (.inl (by omega)) | exact .inr (.inr (by omega))) (by omega)) rfl | exact aF_next (i := i1) ‹_› (by omega) (fF_o (by omega) (by omega)) rfl | exact aF_next (i := i1) ‹_› (by omega) (fF_t ‹_› (by omega) (by omega) (by omega) (by omega) (by omega) (by omega)) rfl)⟩⟩ (le_of [] [((i1 + 1) : Int) = (i1 + 1), ((ldw xs ys (a + 1)) : Int) = (ldw xs ys (a + 1)), false = false, (a : Int) = a, ((ldw xs ys a / 72057594037927936) : Int) = (ldw xs ys a / 72057594037927936), (((ldw xs ys a / 4294967296) % 16777216) : Int) = ((ldw xs ys a / 4294967296) % 16777216), ((ldw xs ys a % 4294967296) : Int) = (ldw xs ys a % 4294967296), (W : Int) = W, (false = true → false = true), ((m64 xs) : List SV) = (m64 xs), (false = true → false = true), ((m64 ys) : List SV) = (m64 ys), (s : Int) = s, (b : Int) = b, (l : Int) = l, (p : Int) = p, (q : Int) = q] (by kernel_rfl) ⟨rfl, rfl, rfl, rfl, rfl, rfl, rfl, rfl, id, rfl, id, rfl, rfl, rfl, rfl, rfl, rfl, trivial⟩) (by show (((ldw xs ys a / 4294967296) % 16777216) - (i1 + 1)).toNat < (((ldw xs ys a / 4294967296) % 16777216) - i1).toNat; omega)
           ·
            by_cases h26 : ((oErr W xs ys (ldw xs ys (a + 2 + i1))) = 0) ∧ ((ldw xs ys (ldw xs ys (a + 2 + i1)) / 72057594037927936) = 255)
            ·
             refine pc (rotwin_2 W xs ys (ldw xs ys (a + 2 + i1)) ‹_› ‹_› ‹_› ‹_› ‹_› ‹_› (by omega) (by omega)) ?_
             obtain ⟨h27, h28, h29⟩ := oErr_ok W xs ys (ldw xs ys (a + 2 + i1)) (by omega)
             refine rk [] 5 4 ⟨[(21, .u 0), (17, .u (ldw xs ys ((ldw xs ys (a + 1)) + 2 + i1))), (14, .u (ldw xs ys (a + 2 + i1))), (13, .i i1), (9, .p 1), (6, .u (ldw xs ys (a + 1))), (4, .f), (2, .p 0), (1, .u a)], [(1, .cells [.i (hT xs ys a), .i (hL xs ys a), .u (hM xs ys a)] 37), (0, .cells (mr W xs ys [.i s, .i b, .i l, .i p, .i q]) 31)], 3⟩ [] trivial ?_
             refine en ?_
             refine an ?_
             refine xw_seq ?_
             refine reg ?_
             refine rk [] 2 0 ⟨[(120, .u (ldw xs ys (a + 2 + i1))), (119, .agg (mr W xs ys [.i s, .i b, .i l, .i p, .i q])), (21, .u 0), (17, .u (ldw xs ys ((ldw xs ys (a + 1)) + 2 + i1))), (14, .u (ldw xs ys (a + 2 + i1))), (13, .i i1), (9, .p 1), (6, .u (ldw xs ys (a + 1))), (4, .f), (2, .p 0), (1, .u a)], [(1, .cells [.i (hT xs ys a), .i (hL xs ys a), .u (hM xs ys a)] 37), (0, .cells (mr W xs ys [.i s, .i b, .i l, .i p, .i q]) 31)], 3⟩ [True] ⟨trivial, trivial⟩ ?_
             by_cases h30 : 1 ≤ (ldw xs ys (a + 2 + i1)) / 4294967296 ∧ (ldw xs ys (a + 2 + i1)) / 4294967296 ≤ 2 ∧ (ldw xs ys (a + 2 + i1)) / 4294967296 - 1 = s
             ·
              refine pc (rtover_1 W xs ys s b l p q (ldw xs ys (a + 2 + i1)) ‹_› ‹_› ‹_› ‹_› ‹_› ‹_› ‹_› ‹_› ‹_› (by omega)) ?_
              refine rk [] 1 3 ⟨[(23, .t), (21, .u 0), (17, .u (ldw xs ys ((ldw xs ys (a + 1)) + 2 + i1))), (14, .u (ldw xs ys (a + 2 + i1))), (13, .i i1), (9, .p 1), (6, .u (ldw xs ys (a + 1))), (4, .f), (2, .p 0), (1, .u a)], [(1, .cells [.i (hT xs ys a), .i (hL xs ys a), .u (hM xs ys a)] 37), (0, .cells (mr W xs ys [.i s, .i b, .i l, .i p, .i q]) 31)], 3⟩ [] trivial ?_
              refine en ?_
              refine an ?_
              refine xw_seq ?_
              refine reg ?_
              refine rk [(4, .bool ((ldw xs ys (a + 2 + i1)) != (ldw xs ys ((ldw xs ys (a + 1)) + 2 + i1))))] 7 0 ⟨[(128, .bool ((ldw xs ys (a + 2 + i1)) != (ldw xs ys ((ldw xs ys (a + 1)) + 2 + i1)))), (23, .t), (21, .u 0), (17, .u (ldw xs ys ((ldw xs ys (a + 1)) + 2 + i1))), (13, .i i1), (9, .p 1), (6, .u (ldw xs ys (a + 1))), (4, .f), (2, .p 0), (1, .u a)], [(1, .cells [.i (hT xs ys a), .i (hL xs ys a), .u (hM xs ys a)] 37), (0, .cells (mr W xs ys [.i s, .i b, .i l, .i p, .i q]) 31)], 3⟩ [((ldw xs ys (a + 2 + i1)) != (ldw xs ys ((ldw xs ys (a + 1)) + 2 + i1))) = ((ldw xs ys (a + 2 + i1)) != (ldw xs ys ((ldw xs ys (a + 1)) + 2 + i1))), True] ⟨rfl, trivial, trivial⟩ ?_
              refine splitr 128 (x := ((ldw xs ys (a + 2 + i1)) != (ldw xs ys ((ldw xs ys (a + 1)) + 2 + i1)))) (by kernel_rfl) (fun h31 => ?_) (fun h31 => ?_)
              ·
               replace h31 : (ldw xs ys (a + 2 + i1)) ≠ (ldw xs ys ((ldw xs ys (a + 1)) + 2 + i1)) := bne_iff_ne.1 h31
               refine rk [] 8 7 ⟨[(136, .t), (13, .i i1), (9, .p 1), (6, .u (ldw xs ys (a + 1))), (4, .f), (2, .p 0), (1, .u a)], [(1, .cells [.i (hT xs ys a), .i (hL xs ys a), .u (hM xs ys a)] 37), (0, .cells (mr W xs ys [.i s, .i b, .i l, .i p, .i q]) 31)], 3⟩ [True] ⟨trivial, trivial⟩ ?_
               refine en ?_
               refine an ?_
               refine ct ?_
               refine rg [] 1 ⟨[(4, .f), (13, .i i1), (9, .p 1), (6, .u (ldw xs ys (a + 1))), (2, .p 0), (1, .u a)], [(1, .cells [.i (hT xs ys a), .i (hL xs ys a), .u (hM xs ys a)] 37), (0, .cells (mr W xs ys [.i s, .i b, .i l, .i p, .i q]) 31)], 3⟩ [] trivial ?_
               refine xw_ret ?_
               refine ib_ret ?_
               refine an_ret ?_
               refine ag_ret ?_
               refine ib_ret ?_
               refine an_ret ?_
               exact bs (.f) (Or.inr <| ⟨(by first | rfl | omega | (have hq := aF_eq (n := ((ldw xs ys a / 4294967296) % 16777216)) ‹aF W xs ys s a (ldw xs ys (a + 1)) ((ldw xs ys a / 4294967296) % 16777216) (ldw xs ys a % 4294967296) i1 = 1› (by omega); omega) | (have hq : (aF W xs ys s a (ldw xs ys (a + 1)) ((ldw xs ys a / 4294967296) % 16777216) (ldw xs ys a % 4294967296) ((ldw xs ys a / 4294967296) % 16777216)) = 0 := aF_no (i := i1) (by omega) (by omega) (fF_p0 (by first | exact .inl ‹_› | exact .inr (.inl (by omega)) | exact .inr (.inr (by omega))) (by omega)); omega) | (have hq : (aF W xs ys s a (ldw xs ys (a + 1)) ((ldw xs ys a / 4294967296) % 16777216) (ldw xs ys a % 4294967296) ((ldw xs ys a / 4294967296) % 16777216)) = 0 := aF_no (i := i1) (by omega) (by omega) (fF_o0 ‹_› (by omega) (by omega) (by omega) (by omega)); omega) | (have hq : (aF W xs ys s a (ldw xs ys (a + 1)) ((ldw xs ys a / 4294967296) % 16777216) (ldw xs ys a % 4294967296) ((ldw xs ys a / 4294967296) % 16777216)) = 0 := aF_no (i := i1) (by omega) (by omega) (fF_t0 ‹_› (by omega) (by omega) (by omega) (by omega) (by omega) (by omega)); omega) | (have hq : (aF W xs ys s a (ldw xs ys (a + 1)) ((ldw xs ys a / 4294967296) % 16777216) (ldw xs ys a % 4294967296) ((ldw xs ys a / 4294967296) % 16777216)) = 0 := aF_no (i := i1) (by omega) (by omega) (fF_n0 ‹_› (by omega) (by omega) (by omega) (by omega)); omega)), rfl⟩)
              ·
               replace h31 : (ldw xs ys (a + 2 + i1)) = (ldw xs ys ((ldw xs ys (a + 1)) + 2 + i1)) := bne_eq_false_iff_eq.1 h31
               refine rk [] 8 7 ⟨[(136, .f), (13, .i i1), (9, .p 1), (6, .u (ldw xs ys (a + 1))), (4, .f), (2, .p 0), (1, .u a)], [(1, .cells [.i (hT xs ys a), .i (hL xs ys a), .u (hM xs ys a)] 37), (0, .cells (mr W xs ys [.i s, .i b, .i l, .i p, .i q]) 31)], 3⟩ [True, True] ⟨trivial, trivial, trivial⟩ ?_
               refine en ?_
               refine an ?_
               refine cf ?_
               refine xw_skip ?_
               refine ib ?_
               refine an ?_
               refine re [(1, .i (i1 + 1))] 3 ⟨[(13, .i (i1 + 1)), (9, .p 1), (6, .u (ldw xs ys (a + 1))), (4, .f), (2, .p 0), (1, .u a)], [(1, .cells [.i (hT xs ys a), .i (hL xs ys a), .u (hM xs ys a)] 37), (0, .cells (mr W xs ys [.i s, .i b, .i l, .i p, .i q]) 31)], 3⟩ [IntKind.i64.wrap (i1 + 1) = (i1 + 1)] ⟨i64_eq (by omega) (by omega), trivial⟩ ?_
               exact ag ⟨(i1 + 1), ⟨(by omega), (by omega), (by first | exact aF_0 rfl | exact aF_next (i := i1) ‹_› (by omega) (fF_p (by first | exact .inl ‹_› | exact .inr (.inl (by omega)) | exact .inr (.inr (by omega))) (by omega)) rfl | exact aF_next (i := i1) ‹_› (by omega) (fF_o (by omega) (by omega)) rfl | exact aF_next (i := i1) ‹_› (by omega) (fF_t ‹_› (by omega) (by omega) (by omega) (by omega) (by omega) (by omega)) rfl)⟩⟩ (le_of [] [((i1 + 1) : Int) = (i1 + 1), ((ldw xs ys (a + 1)) : Int) = (ldw xs ys (a + 1)), false = false, (a : Int) = a, ((ldw xs ys a / 72057594037927936) : Int) = (ldw xs ys a / 72057594037927936), (((ldw xs ys a / 4294967296) % 16777216) : Int) = ((ldw xs ys a / 4294967296) % 16777216), ((ldw xs ys a % 4294967296) : Int) = (ldw xs ys a % 4294967296), (W : Int) = W, (false = true → false = true), ((m64 xs) : List SV) = (m64 xs), (false = true → false = true), ((m64 ys) : List SV) = (m64 ys), (s : Int) = s, (b : Int) = b, (l : Int) = l, (p : Int) = p, (q : Int) = q] (by kernel_rfl) ⟨rfl, rfl, rfl, rfl, rfl, rfl, rfl, rfl, id, rfl, id, rfl, rfl, rfl, rfl, rfl, rfl, trivial⟩) (by show (((ldw xs ys a / 4294967296) % 16777216) - (i1 + 1)).toNat < (((ldw xs ys a / 4294967296) % 16777216) - i1).toNat; omega)
             ·
              refine pc (rtover_2 W xs ys s b l p q (ldw xs ys (a + 2 + i1)) ‹_› ‹_› ‹_› ‹_› ‹_› ‹_› ‹_› ‹_› ‹_› (by omega)) ?_
              refine rk [] 1 3 ⟨[(23, .f), (21, .u 0), (17, .u (ldw xs ys ((ldw xs ys (a + 1)) + 2 + i1))), (14, .u (ldw xs ys (a + 2 + i1))), (13, .i i1), (9, .p 1), (6, .u (ldw xs ys (a + 1))), (4, .f), (2, .p 0), (1, .u a)], [(1, .cells [.i (hT xs ys a), .i (hL xs ys a), .u (hM xs ys a)] 37), (0, .cells (mr W xs ys [.i s, .i b, .i l, .i p, .i q]) 31)], 3⟩ [] trivial ?_
              refine en ?_
              refine an ?_
              refine rg [(12, .t)] 15 ⟨[(136, .t), (13, .i i1), (9, .p 1), (6, .u (ldw xs ys (a + 1))), (4, .f), (2, .p 0), (1, .u a)], [(1, .cells [.i (hT xs ys a), .i (hL xs ys a), .u (hM xs ys a)] 37), (0, .cells (mr W xs ys [.i s, .i b, .i l, .i p, .i q]) 31)], 3⟩ [True, (0 != (ldw xs ys ((ldw xs ys (a + 1)) + 2 + i1))) = true, True, True] ⟨trivial, bne_iff_ne.2 (by omega), trivial, trivial, trivial⟩ ?_
              refine ct ?_
              refine rg [] 1 ⟨[(4, .f), (13, .i i1), (9, .p 1), (6, .u (ldw xs ys (a + 1))), (2, .p 0), (1, .u a)], [(1, .cells [.i (hT xs ys a), .i (hL xs ys a), .u (hM xs ys a)] 37), (0, .cells (mr W xs ys [.i s, .i b, .i l, .i p, .i q]) 31)], 3⟩ [] trivial ?_
              refine xw_ret ?_
              refine ib_ret ?_
              refine an_ret ?_
              refine ag_ret ?_
              refine ib_ret ?_
              refine an_ret ?_
              exact bs (.f) (Or.inr <| ⟨(by first | rfl | omega | (have hq := aF_eq (n := ((ldw xs ys a / 4294967296) % 16777216)) ‹aF W xs ys s a (ldw xs ys (a + 1)) ((ldw xs ys a / 4294967296) % 16777216) (ldw xs ys a % 4294967296) i1 = 1› (by omega); omega) | (have hq : (aF W xs ys s a (ldw xs ys (a + 1)) ((ldw xs ys a / 4294967296) % 16777216) (ldw xs ys a % 4294967296) ((ldw xs ys a / 4294967296) % 16777216)) = 0 := aF_no (i := i1) (by omega) (by omega) (fF_p0 (by first | exact .inl ‹_› | exact .inr (.inl (by omega)) | exact .inr (.inr (by omega))) (by omega)); omega) | (have hq : (aF W xs ys s a (ldw xs ys (a + 1)) ((ldw xs ys a / 4294967296) % 16777216) (ldw xs ys a % 4294967296) ((ldw xs ys a / 4294967296) % 16777216)) = 0 := aF_no (i := i1) (by omega) (by omega) (fF_o0 ‹_› (by omega) (by omega) (by omega) (by omega)); omega) | (have hq : (aF W xs ys s a (ldw xs ys (a + 1)) ((ldw xs ys a / 4294967296) % 16777216) (ldw xs ys a % 4294967296) ((ldw xs ys a / 4294967296) % 16777216)) = 0 := aF_no (i := i1) (by omega) (by omega) (fF_t0 ‹_› (by omega) (by omega) (by omega) (by omega) (by omega) (by omega)); omega) | (have hq : (aF W xs ys s a (ldw xs ys (a + 1)) ((ldw xs ys a / 4294967296) % 16777216) (ldw xs ys a % 4294967296) ((ldw xs ys a / 4294967296) % 16777216)) = 0 := aF_no (i := i1) (by omega) (by omega) (fF_n0 ‹_› (by omega) (by omega) (by omega) (by omega)); omega)), rfl⟩)
            ·
             refine pc (rotwin_3 W xs ys (ldw xs ys (a + 2 + i1)) ‹_› ‹_› ‹_› ‹_› ‹_› ‹_› (by omega)) ?_
             have h27 : (oErr W xs ys (ldw xs ys (a + 2 + i1))) = 2 ∨ (oErr W xs ys (ldw xs ys (a + 2 + i1))) = 10 := oErr_no W xs ys (ldw xs ys (a + 2 + i1)) (by omega)
             refine rk [] 5 4 ⟨[(21, .u 0), (17, .u (ldw xs ys ((ldw xs ys (a + 1)) + 2 + i1))), (14, .u (ldw xs ys (a + 2 + i1))), (13, .i i1), (9, .p 1), (6, .u (ldw xs ys (a + 1))), (4, .f), (2, .p 0), (1, .u a)], [(1, .cells [.i (hT xs ys a), .i (hL xs ys a), .u (hM xs ys a)] 37), (0, .cells (mr W xs ys [.i s, .i b, .i l, .i p, .i q]) 31)], 3⟩ [] trivial ?_
             refine en ?_
             refine an ?_
             refine xw_seq ?_
             refine reg ?_
             refine rk [] 2 0 ⟨[(120, .u (ldw xs ys (a + 2 + i1))), (119, .agg (mr W xs ys [.i s, .i b, .i l, .i p, .i q])), (21, .u 0), (17, .u (ldw xs ys ((ldw xs ys (a + 1)) + 2 + i1))), (14, .u (ldw xs ys (a + 2 + i1))), (13, .i i1), (9, .p 1), (6, .u (ldw xs ys (a + 1))), (4, .f), (2, .p 0), (1, .u a)], [(1, .cells [.i (hT xs ys a), .i (hL xs ys a), .u (hM xs ys a)] 37), (0, .cells (mr W xs ys [.i s, .i b, .i l, .i p, .i q]) 31)], 3⟩ [True] ⟨trivial, trivial⟩ ?_
             by_cases h28 : 1 ≤ (ldw xs ys (a + 2 + i1)) / 4294967296 ∧ (ldw xs ys (a + 2 + i1)) / 4294967296 ≤ 2 ∧ (ldw xs ys (a + 2 + i1)) / 4294967296 - 1 = s
             ·
              refine pc (rtover_1 W xs ys s b l p q (ldw xs ys (a + 2 + i1)) ‹_› ‹_› ‹_› ‹_› ‹_› ‹_› ‹_› ‹_› ‹_› (by omega)) ?_
              refine rk [] 1 3 ⟨[(23, .t), (21, .u 0), (17, .u (ldw xs ys ((ldw xs ys (a + 1)) + 2 + i1))), (14, .u (ldw xs ys (a + 2 + i1))), (13, .i i1), (9, .p 1), (6, .u (ldw xs ys (a + 1))), (4, .f), (2, .p 0), (1, .u a)], [(1, .cells [.i (hT xs ys a), .i (hL xs ys a), .u (hM xs ys a)] 37), (0, .cells (mr W xs ys [.i s, .i b, .i l, .i p, .i q]) 31)], 3⟩ [] trivial ?_
              refine en ?_
              refine an ?_
              refine xw_seq ?_
              refine reg ?_
              refine rk [(4, .bool ((ldw xs ys (a + 2 + i1)) != (ldw xs ys ((ldw xs ys (a + 1)) + 2 + i1))))] 7 0 ⟨[(128, .bool ((ldw xs ys (a + 2 + i1)) != (ldw xs ys ((ldw xs ys (a + 1)) + 2 + i1)))), (23, .t), (21, .u 0), (17, .u (ldw xs ys ((ldw xs ys (a + 1)) + 2 + i1))), (13, .i i1), (9, .p 1), (6, .u (ldw xs ys (a + 1))), (4, .f), (2, .p 0), (1, .u a)], [(1, .cells [.i (hT xs ys a), .i (hL xs ys a), .u (hM xs ys a)] 37), (0, .cells (mr W xs ys [.i s, .i b, .i l, .i p, .i q]) 31)], 3⟩ [((ldw xs ys (a + 2 + i1)) != (ldw xs ys ((ldw xs ys (a + 1)) + 2 + i1))) = ((ldw xs ys (a + 2 + i1)) != (ldw xs ys ((ldw xs ys (a + 1)) + 2 + i1))), True] ⟨rfl, trivial, trivial⟩ ?_
              refine splitr 128 (x := ((ldw xs ys (a + 2 + i1)) != (ldw xs ys ((ldw xs ys (a + 1)) + 2 + i1)))) (by kernel_rfl) (fun h29 => ?_) (fun h29 => ?_)
              ·
               replace h29 : (ldw xs ys (a + 2 + i1)) ≠ (ldw xs ys ((ldw xs ys (a + 1)) + 2 + i1)) := bne_iff_ne.1 h29
               refine rk [] 8 7 ⟨[(136, .t), (13, .i i1), (9, .p 1), (6, .u (ldw xs ys (a + 1))), (4, .f), (2, .p 0), (1, .u a)], [(1, .cells [.i (hT xs ys a), .i (hL xs ys a), .u (hM xs ys a)] 37), (0, .cells (mr W xs ys [.i s, .i b, .i l, .i p, .i q]) 31)], 3⟩ [True] ⟨trivial, trivial⟩ ?_
               refine en ?_
               refine an ?_
               refine ct ?_
               refine rg [] 1 ⟨[(4, .f), (13, .i i1), (9, .p 1), (6, .u (ldw xs ys (a + 1))), (2, .p 0), (1, .u a)], [(1, .cells [.i (hT xs ys a), .i (hL xs ys a), .u (hM xs ys a)] 37), (0, .cells (mr W xs ys [.i s, .i b, .i l, .i p, .i q]) 31)], 3⟩ [] trivial ?_
               refine xw_ret ?_
               refine ib_ret ?_
               refine an_ret ?_
               refine ag_ret ?_
               refine ib_ret ?_
               refine an_ret ?_
               exact bs (.f) (Or.inr <| ⟨(by first | rfl | omega | (have hq := aF_eq (n := ((ldw xs ys a / 4294967296) % 16777216)) ‹aF W xs ys s a (ldw xs ys (a + 1)) ((ldw xs ys a / 4294967296) % 16777216) (ldw xs ys a % 4294967296) i1 = 1› (by omega); omega) | (have hq : (aF W xs ys s a (ldw xs ys (a + 1)) ((ldw xs ys a / 4294967296) % 16777216) (ldw xs ys a % 4294967296) ((ldw xs ys a / 4294967296) % 16777216)) = 0 := aF_no (i := i1) (by omega) (by omega) (fF_p0 (by first | exact .inl ‹_› | exact .inr (.inl (by omega)) | exact .inr (.inr (by omega))) (by omega)); omega) | (have hq : (aF W xs ys s a (ldw xs ys (a + 1)) ((ldw xs ys a / 4294967296) % 16777216) (ldw xs ys a % 4294967296) ((ldw xs ys a / 4294967296) % 16777216)) = 0 := aF_no (i := i1) (by omega) (by omega) (fF_o0 ‹_› (by omega) (by omega) (by omega) (by omega)); omega) | (have hq : (aF W xs ys s a (ldw xs ys (a + 1)) ((ldw xs ys a / 4294967296) % 16777216) (ldw xs ys a % 4294967296) ((ldw xs ys a / 4294967296) % 16777216)) = 0 := aF_no (i := i1) (by omega) (by omega) (fF_t0 ‹_› (by omega) (by omega) (by omega) (by omega) (by omega) (by omega)); omega) | (have hq : (aF W xs ys s a (ldw xs ys (a + 1)) ((ldw xs ys a / 4294967296) % 16777216) (ldw xs ys a % 4294967296) ((ldw xs ys a / 4294967296) % 16777216)) = 0 := aF_no (i := i1) (by omega) (by omega) (fF_n0 ‹_› (by omega) (by omega) (by omega) (by omega)); omega)), rfl⟩)
              ·
               replace h29 : (ldw xs ys (a + 2 + i1)) = (ldw xs ys ((ldw xs ys (a + 1)) + 2 + i1)) := bne_eq_false_iff_eq.1 h29
               refine rk [] 8 7 ⟨[(136, .f), (13, .i i1), (9, .p 1), (6, .u (ldw xs ys (a + 1))), (4, .f), (2, .p 0), (1, .u a)], [(1, .cells [.i (hT xs ys a), .i (hL xs ys a), .u (hM xs ys a)] 37), (0, .cells (mr W xs ys [.i s, .i b, .i l, .i p, .i q]) 31)], 3⟩ [True, True] ⟨trivial, trivial, trivial⟩ ?_
               refine en ?_
               refine an ?_
               refine cf ?_
               refine xw_skip ?_
               refine ib ?_
               refine an ?_
               refine re [(1, .i (i1 + 1))] 3 ⟨[(13, .i (i1 + 1)), (9, .p 1), (6, .u (ldw xs ys (a + 1))), (4, .f), (2, .p 0), (1, .u a)], [(1, .cells [.i (hT xs ys a), .i (hL xs ys a), .u (hM xs ys a)] 37), (0, .cells (mr W xs ys [.i s, .i b, .i l, .i p, .i q]) 31)], 3⟩ [IntKind.i64.wrap (i1 + 1) = (i1 + 1)] ⟨i64_eq (by omega) (by omega), trivial⟩ ?_
               exact ag ⟨(i1 + 1), ⟨(by omega), (by omega), (by first | exact aF_0 rfl | exact aF_next (i := i1) ‹_› (by omega) (fF_p (by first | exact .inl ‹_› | exact .inr (.inl (by omega)) | exact .inr (.inr (by omega))) (by omega)) rfl | exact aF_next (i := i1) ‹_› (by omega) (fF_o (by omega) (by omega)) rfl | exact aF_next (i := i1) ‹_› (by omega) (fF_t ‹_› (by omega) (by omega) (by omega) (by omega) (by omega) (by omega)) rfl)⟩⟩ (le_of [] [((i1 + 1) : Int) = (i1 + 1), ((ldw xs ys (a + 1)) : Int) = (ldw xs ys (a + 1)), false = false, (a : Int) = a, ((ldw xs ys a / 72057594037927936) : Int) = (ldw xs ys a / 72057594037927936), (((ldw xs ys a / 4294967296) % 16777216) : Int) = ((ldw xs ys a / 4294967296) % 16777216), ((ldw xs ys a % 4294967296) : Int) = (ldw xs ys a % 4294967296), (W : Int) = W, (false = true → false = true), ((m64 xs) : List SV) = (m64 xs), (false = true → false = true), ((m64 ys) : List SV) = (m64 ys), (s : Int) = s, (b : Int) = b, (l : Int) = l, (p : Int) = p, (q : Int) = q] (by kernel_rfl) ⟨rfl, rfl, rfl, rfl, rfl, rfl, rfl, rfl, id, rfl, id, rfl, rfl, rfl, rfl, rfl, rfl, trivial⟩) (by show (((ldw xs ys a / 4294967296) % 16777216) - (i1 + 1)).toNat < (((ldw xs ys a / 4294967296) % 16777216) - i1).toNat; omega)
             ·
              refine pc (rtover_2 W xs ys s b l p q (ldw xs ys (a + 2 + i1)) ‹_› ‹_› ‹_› ‹_› ‹_› ‹_› ‹_› ‹_› ‹_› (by omega)) ?_
              refine rk [] 1 3 ⟨[(23, .f), (21, .u 0), (17, .u (ldw xs ys ((ldw xs ys (a + 1)) + 2 + i1))), (14, .u (ldw xs ys (a + 2 + i1))), (13, .i i1), (9, .p 1), (6, .u (ldw xs ys (a + 1))), (4, .f), (2, .p 0), (1, .u a)], [(1, .cells [.i (hT xs ys a), .i (hL xs ys a), .u (hM xs ys a)] 37), (0, .cells (mr W xs ys [.i s, .i b, .i l, .i p, .i q]) 31)], 3⟩ [] trivial ?_
              refine en ?_
              refine an ?_
              refine rg [(12, .t)] 15 ⟨[(136, .t), (13, .i i1), (9, .p 1), (6, .u (ldw xs ys (a + 1))), (4, .f), (2, .p 0), (1, .u a)], [(1, .cells [.i (hT xs ys a), .i (hL xs ys a), .u (hM xs ys a)] 37), (0, .cells (mr W xs ys [.i s, .i b, .i l, .i p, .i q]) 31)], 3⟩ [True, (0 != (ldw xs ys ((ldw xs ys (a + 1)) + 2 + i1))) = true, True, True] ⟨trivial, bne_iff_ne.2 (by omega), trivial, trivial, trivial⟩ ?_
              refine ct ?_
              refine rg [] 1 ⟨[(4, .f), (13, .i i1), (9, .p 1), (6, .u (ldw xs ys (a + 1))), (2, .p 0), (1, .u a)], [(1, .cells [.i (hT xs ys a), .i (hL xs ys a), .u (hM xs ys a)] 37), (0, .cells (mr W xs ys [.i s, .i b, .i l, .i p, .i q]) 31)], 3⟩ [] trivial ?_
              refine xw_ret ?_
              refine ib_ret ?_
              refine an_ret ?_
              refine ag_ret ?_
              refine ib_ret ?_
              refine an_ret ?_
              exact bs (.f) (Or.inr <| ⟨(by first | rfl | omega | (have hq := aF_eq (n := ((ldw xs ys a / 4294967296) % 16777216)) ‹aF W xs ys s a (ldw xs ys (a + 1)) ((ldw xs ys a / 4294967296) % 16777216) (ldw xs ys a % 4294967296) i1 = 1› (by omega); omega) | (have hq : (aF W xs ys s a (ldw xs ys (a + 1)) ((ldw xs ys a / 4294967296) % 16777216) (ldw xs ys a % 4294967296) ((ldw xs ys a / 4294967296) % 16777216)) = 0 := aF_no (i := i1) (by omega) (by omega) (fF_p0 (by first | exact .inl ‹_› | exact .inr (.inl (by omega)) | exact .inr (.inr (by omega))) (by omega)); omega) | (have hq : (aF W xs ys s a (ldw xs ys (a + 1)) ((ldw xs ys a / 4294967296) % 16777216) (ldw xs ys a % 4294967296) ((ldw xs ys a / 4294967296) % 16777216)) = 0 := aF_no (i := i1) (by omega) (by omega) (fF_o0 ‹_› (by omega) (by omega) (by omega) (by omega)); omega) | (have hq : (aF W xs ys s a (ldw xs ys (a + 1)) ((ldw xs ys a / 4294967296) % 16777216) (ldw xs ys a % 4294967296) ((ldw xs ys a / 4294967296) % 16777216)) = 0 := aF_no (i := i1) (by omega) (by omega) (fF_t0 ‹_› (by omega) (by omega) (by omega) (by omega) (by omega) (by omega)); omega) | (have hq : (aF W xs ys s a (ldw xs ys (a + 1)) ((ldw xs ys a / 4294967296) % 16777216) (ldw xs ys a % 4294967296) ((ldw xs ys a / 4294967296) % 16777216)) = 0 := aF_no (i := i1) (by omega) (by omega) (fF_n0 ‹_› (by omega) (by omega) (by omega) (by omega)); omega)), rfl⟩)
       ·
        replace h17 : ¬ (i1 < ((ldw xs ys a / 4294967296) % 16777216)) := of_decide_eq_false h17
        refine xw_exit ?_
        refine an_exit ?_
        refine ag_exit ?_
        refine ib_same ?_
        refine an ?_
        refine rg [] 1 ⟨[(4, .t)], [], 3⟩ [] trivial ?_
        refine xw_ret ?_
        exact bs (.t) (Or.inl <| ⟨(by first | rfl | omega | (have hq := aF_eq (n := ((ldw xs ys a / 4294967296) % 16777216)) ‹aF W xs ys s a (ldw xs ys (a + 1)) ((ldw xs ys a / 4294967296) % 16777216) (ldw xs ys a % 4294967296) i1 = 1› (by omega); omega) | (have hq : (aF W xs ys s a (ldw xs ys (a + 1)) ((ldw xs ys a / 4294967296) % 16777216) (ldw xs ys a % 4294967296) ((ldw xs ys a / 4294967296) % 16777216)) = 0 := aF_no (i := i1) (by omega) (by omega) (fF_p0 (by first | exact .inl ‹_› | exact .inr (.inl (by omega)) | exact .inr (.inr (by omega))) (by omega)); omega) | (have hq : (aF W xs ys s a (ldw xs ys (a + 1)) ((ldw xs ys a / 4294967296) % 16777216) (ldw xs ys a % 4294967296) ((ldw xs ys a / 4294967296) % 16777216)) = 0 := aF_no (i := i1) (by omega) (by omega) (fF_o0 ‹_› (by omega) (by omega) (by omega) (by omega)); omega) | (have hq : (aF W xs ys s a (ldw xs ys (a + 1)) ((ldw xs ys a / 4294967296) % 16777216) (ldw xs ys a % 4294967296) ((ldw xs ys a / 4294967296) % 16777216)) = 0 := aF_no (i := i1) (by omega) (by omega) (fF_t0 ‹_› (by omega) (by omega) (by omega) (by omega) (by omega) (by omega)); omega) | (have hq : (aF W xs ys s a (ldw xs ys (a + 1)) ((ldw xs ys a / 4294967296) % 16777216) (ldw xs ys a % 4294967296) ((ldw xs ys a / 4294967296) % 16777216)) = 0 := aF_no (i := i1) (by omega) (by omega) (fF_n0 ‹_› (by omega) (by omega) (by omega) (by omega)); omega)), rfl⟩)
     ·
      refine pc (roat_2 W xs ys (ldw xs ys (a + 1)) ‹_› ‹_› ‹_› ‹_› ‹_› ‹_› ‹_›) ?_
      have h10 : (oErr W xs ys (ldw xs ys (a + 1))) = 2 ∨ (oErr W xs ys (ldw xs ys (a + 1))) = 10 := oErr_no W xs ys (ldw xs ys (a + 1)) (by omega)
      refine rk [] 6 4 ⟨[(12, .i (oErr W xs ys (ldw xs ys (a + 1)))), (11, .p 2), (9, .p 1), (6, .u (ldw xs ys (a + 1))), (4, .f), (2, .p 0), (1, .u a)], [(2, .cells [.i 0, .i 0, .u 0] 37), (1, .cells [.i (hT xs ys a), .i (hL xs ys a), .u (hM xs ys a)] 37), (0, .cells (mr W xs ys [.i s, .i b, .i l, .i p, .i q]) 31)], 3⟩ [True] ⟨trivial, trivial⟩ ?_
      refine en ?_
      refine an ?_
      refine xw_seq ?_
      refine rg [(1, .t)] 7 ⟨[(71, .t), (9, .p 1), (6, .u (ldw xs ys (a + 1))), (4, .f), (2, .p 0), (1, .u a)], [(1, .cells [.i (hT xs ys a), .i (hL xs ys a), .u (hM xs ys a)] 37), (0, .cells (mr W xs ys [.i s, .i b, .i l, .i p, .i q]) 31)], 3⟩ [((oErr W xs ys (ldw xs ys (a + 1))) != 0) = true, True] ⟨bne_iff_ne.2 (by omega), trivial, trivial⟩ ?_
      refine ct ?_
      refine rg [] 1 ⟨[(4, .f), (9, .p 1), (6, .u (ldw xs ys (a + 1))), (2, .p 0), (1, .u a)], [(1, .cells [.i (hT xs ys a), .i (hL xs ys a), .u (hM xs ys a)] 37), (0, .cells (mr W xs ys [.i s, .i b, .i l, .i p, .i q]) 31)], 3⟩ [] trivial ?_
      refine xw_ret ?_
      refine an_ret ?_
      exact bs (.f) (Or.inr <| ⟨(by omega), rfl⟩)
    ·
     refine pc (rtover_2 W xs ys s b l p q (ldw xs ys (a + 1)) ‹_› ‹_› ‹_› ‹_› ‹_› ‹_› ‹_› ‹_› ‹_› (by omega)) ?_
     refine rk [] 1 3 ⟨[(8, .f), (7, .i 0), (6, .u (ldw xs ys (a + 1))), (4, .f), (2, .p 0), (1, .u a)], [(0, .cells (mr W xs ys [.i s, .i b, .i l, .i p, .i q]) 31)], 1⟩ [] trivial ?_
     refine en ?_
     refine an ?_
     refine xw_seq ?_
     refine rg [(1, .f)] 6 ⟨[(50, .t), (6, .u (ldw xs ys (a + 1))), (4, .f), (2, .p 0), (1, .u a)], [(0, .cells (mr W xs ys [.i s, .i b, .i l, .i p, .i q]) 31)], 1⟩ [(0 != 0) = false, True] ⟨bne_eq_false_iff_eq.2 (by omega), trivial, trivial⟩ ?_
     refine ct ?_
     refine rg [] 1 ⟨[(4, .f), (6, .u (ldw xs ys (a + 1))), (2, .p 0), (1, .u a)], [(0, .cells (mr W xs ys [.i s, .i b, .i l, .i p, .i q]) 31)], 1⟩ [] trivial ?_
     refine xw_ret ?_
     refine an_ret ?_
     exact bs (.f) (Or.inr <| ⟨(by omega), rfl⟩)
   ·
    by_cases h3 : ((oErr W xs ys a) = 0) ∧ ((ldw xs ys a / 72057594037927936) = 255)
    ·
     refine pc (rotwin_2 W xs ys a ‹_› ‹_› ‹_› ‹_› ‹_› ‹_› (by omega) (by omega)) ?_
     obtain ⟨h4, h5, h6⟩ := oErr_ok W xs ys a (by omega)
     refine rk [] 5 4 ⟨[(7, .i 8), (6, .u 0), (4, .f), (2, .p 0), (1, .u a)], [(0, .cells (mr W xs ys [.i s, .i b, .i l, .i p, .i q]) 31)], 1⟩ [] trivial ?_
     refine en ?_
     refine an ?_
     refine xw_seq ?_
     refine reg ?_
     refine rk [] 2 0 ⟨[(43, .u 0), (42, .agg (mr W xs ys [.i s, .i b, .i l, .i p, .i q])), (7, .i 8), (6, .u 0), (4, .f), (2, .p 0), (1, .u a)], [(0, .cells (mr W xs ys [.i s, .i b, .i l, .i p, .i q]) 31)], 1⟩ [True] ⟨trivial, trivial⟩ ?_
     refine pc (rtover_2 W xs ys s b l p q 0 ‹_› ‹_› ‹_› ‹_› ‹_› ‹_› ‹_› ‹_› (by omega) (by omega)) ?_
     refine rk [] 1 3 ⟨[(8, .f), (7, .i 8), (6, .u 0), (4, .f), (2, .p 0), (1, .u a)], [(0, .cells (mr W xs ys [.i s, .i b, .i l, .i p, .i q]) 31)], 1⟩ [] trivial ?_
     refine en ?_
     refine an ?_
     refine xw_seq ?_
     refine rg [(1, .t)] 6 ⟨[(50, .t), (6, .u 0), (4, .f), (2, .p 0), (1, .u a)], [(0, .cells (mr W xs ys [.i s, .i b, .i l, .i p, .i q]) 31)], 1⟩ [(8 != 0) = true, True] ⟨bne_iff_ne.2 (by omega), trivial, trivial⟩ ?_
     refine ct ?_
     refine rg [] 1 ⟨[(4, .f), (6, .u 0), (2, .p 0), (1, .u a)], [(0, .cells (mr W xs ys [.i s, .i b, .i l, .i p, .i q]) 31)], 1⟩ [] trivial ?_
     refine xw_ret ?_
     refine an_ret ?_
     exact bs (.f) (Or.inr <| ⟨(by omega), rfl⟩)
    ·
     refine pc (rotwin_3 W xs ys a ‹_› ‹_› ‹_› ‹_› ‹_› ‹_› (by omega)) ?_
     have h4 : (oErr W xs ys a) = 2 ∨ (oErr W xs ys a) = 10 := oErr_no W xs ys a (by omega)
     refine rk [] 5 4 ⟨[(7, .i (oErr W xs ys a)), (6, .u 0), (4, .f), (2, .p 0), (1, .u a)], [(0, .cells (mr W xs ys [.i s, .i b, .i l, .i p, .i q]) 31)], 1⟩ [] trivial ?_
     refine en ?_
     refine an ?_
     refine xw_seq ?_
     refine reg ?_
     refine rk [] 2 0 ⟨[(43, .u 0), (42, .agg (mr W xs ys [.i s, .i b, .i l, .i p, .i q])), (7, .i (oErr W xs ys a)), (6, .u 0), (4, .f), (2, .p 0), (1, .u a)], [(0, .cells (mr W xs ys [.i s, .i b, .i l, .i p, .i q]) 31)], 1⟩ [True] ⟨trivial, trivial⟩ ?_
     refine pc (rtover_2 W xs ys s b l p q 0 ‹_› ‹_› ‹_› ‹_› ‹_› ‹_› ‹_› ‹_› (by omega) (by omega)) ?_
     refine rk [] 1 3 ⟨[(8, .f), (7, .i (oErr W xs ys a)), (6, .u 0), (4, .f), (2, .p 0), (1, .u a)], [(0, .cells (mr W xs ys [.i s, .i b, .i l, .i p, .i q]) 31)], 1⟩ [] trivial ?_
     refine en ?_
     refine an ?_
     refine xw_seq ?_
     refine rg [(1, .t)] 6 ⟨[(50, .t), (6, .u 0), (4, .f), (2, .p 0), (1, .u a)], [(0, .cells (mr W xs ys [.i s, .i b, .i l, .i p, .i q]) 31)], 1⟩ [((oErr W xs ys a) != 0) = true, True] ⟨bne_iff_ne.2 (by omega), trivial, trivial⟩ ?_
     refine ct ?_
     refine rg [] 1 ⟨[(4, .f), (6, .u 0), (2, .p 0), (1, .u a)], [(0, .cells (mr W xs ys [.i s, .i b, .i l, .i p, .i q]) 31)], 1⟩ [] trivial ?_
     refine xw_ret ?_
     refine an_ret ?_
     exact bs (.f) (Or.inr <| ⟨(by omega), rfl⟩)

theorem rrpsame_1 (W : Int) (xs : List Int) (ys : List Int) (s : Int) (b : Int) (l : Int) (p : Int) (q : Int) (a : Int) (hp0 : 16 ≤ W ∧ W ≤ 4096) (hp1 : (xs.length : Int) = W) (hp2 : (ys.length : Int) = W) (hp3 : U64s xs) (hp4 : U64s ys) (hp5 : (s = 0 ∨ s = 1) ∧ 0 ≤ b ∧ b ≤ l ∧ l ≤ 4096) (hp6 : l = W) (hp7 : 0 ≤ p ∧ p ≤ q ∧ q ≤ b) (hp8 : 0 ≤ a ∧ a ≤ 18446744073709551615) (hp9 : a = 0 ∨ (1 ≤ a / 4294967296 ∧ a / 4294967296 ≤ 2 ∧ a / 4294967296 - 1 = s ∧ (oErr W xs ys a) = 0 ∧ (ldw xs ys a / 72057594037927936) ≠ 255) ∨ ((oErr W xs ys a) = 0 ∧ (ldw xs ys a / 72057594037927936) ≠ 255 ∧ 1 ≤ (ldw xs ys (a + 1)) / 4294967296 ∧ (ldw xs ys (a + 1)) / 4294967296 ≤ 2 ∧ (ldw xs ys (a + 1)) / 4294967296 - 1 = s ∧ (oErr W xs ys (ldw xs ys (a + 1))) = 0 ∧ (ldw xs ys a / 72057594037927936) = (ldw xs ys (ldw xs ys (a + 1)) / 72057594037927936) ∧ ((ldw xs ys a / 4294967296) % 16777216) = ((ldw xs ys (ldw xs ys (a + 1)) / 4294967296) % 16777216) ∧ (ldw xs ys a % 4294967296) = (ldw xs ys (ldw xs ys (a + 1)) % 4294967296) ∧ (aF W xs ys s a (ldw xs ys (a + 1)) ((ldw xs ys a / 4294967296) % 16777216) (ldw xs ys a % 4294967296) ((ldw xs ys a / 4294967296) % 16777216)) = 1)) : Pub Try.prog 14 [.agg (mr W xs ys [.int .i64 s, .int .i64 b, .int .i64 l, .int .i64 p, .int .i64 q]), .int .u64 a] (fun rv => rv = .bool true) := by
  refine (rrpsame W xs ys s b l p q a hp0 hp1 hp2 hp3 hp4 hp5 hp6 hp7 hp8).mono ?_
  rintro _ (⟨g0, rfl⟩ | ⟨g0, rfl⟩)
  · rfl
  · exfalso; first | omega | grind

theorem rrpsame_2 (W : Int) (xs : List Int) (ys : List Int) (s : Int) (b : Int) (l : Int) (p : Int) (q : Int) (a : Int) (hp0 : 16 ≤ W ∧ W ≤ 4096) (hp1 : (xs.length : Int) = W) (hp2 : (ys.length : Int) = W) (hp3 : U64s xs) (hp4 : U64s ys) (hp5 : (s = 0 ∨ s = 1) ∧ 0 ≤ b ∧ b ≤ l ∧ l ≤ 4096) (hp6 : l = W) (hp7 : 0 ≤ p ∧ p ≤ q ∧ q ≤ b) (hp8 : 0 ≤ a ∧ a ≤ 18446744073709551615) (hp9 : ¬ (a = 0 ∨ (1 ≤ a / 4294967296 ∧ a / 4294967296 ≤ 2 ∧ a / 4294967296 - 1 = s ∧ (oErr W xs ys a) = 0 ∧ (ldw xs ys a / 72057594037927936) ≠ 255) ∨ ((oErr W xs ys a) = 0 ∧ (ldw xs ys a / 72057594037927936) ≠ 255 ∧ 1 ≤ (ldw xs ys (a + 1)) / 4294967296 ∧ (ldw xs ys (a + 1)) / 4294967296 ≤ 2 ∧ (ldw xs ys (a + 1)) / 4294967296 - 1 = s ∧ (oErr W xs ys (ldw xs ys (a + 1))) = 0 ∧ (ldw xs ys a / 72057594037927936) = (ldw xs ys (ldw xs ys (a + 1)) / 72057594037927936) ∧ ((ldw xs ys a / 4294967296) % 16777216) = ((ldw xs ys (ldw xs ys (a + 1)) / 4294967296) % 16777216) ∧ (ldw xs ys a % 4294967296) = (ldw xs ys (ldw xs ys (a + 1)) % 4294967296) ∧ (aF W xs ys s a (ldw xs ys (a + 1)) ((ldw xs ys a / 4294967296) % 16777216) (ldw xs ys a % 4294967296) ((ldw xs ys a / 4294967296) % 16777216)) = 1))) : Pub Try.prog 14 [.agg (mr W xs ys [.int .i64 s, .int .i64 b, .int .i64 l, .int .i64 p, .int .i64 q]), .int .u64 a] (fun rv => rv = .bool false) := by
  refine (rrpsame W xs ys s b l p q a hp0 hp1 hp2 hp3 hp4 hp5 hp6 hp7 hp8).mono ?_
  rintro _ (⟨g0, rfl⟩ | ⟨g0, rfl⟩)
  · exfalso; first | omega | grind
  · rfl

end Go.Proofs.Ytkiaoafmlekndaa.X
