/- Contracts of Go functions: what each returns, for every input that its premises name; no memory of the caller is touched. Printed by a program. -/
import Derived.Test.YtcjcljbhjkedgaaXf2
import Derived.Test.YtcjcljbhjkedgaaXq7
namespace Go.Proofs.Ytcjcljbhjkedgaa.X
open Go Go.RowKit
set_option linter.unusedVariables false      -- a premise may serve only to tell which way is taken
set_option linter.unusedSimpArgs false
theorem tmade (W : Int) (xs : List Int) (ys : List Int) (s : Int) (b : Int) (l : Int) (p : Int) (q : Int) (a : Int) (hp0 : 16 ≤ W ∧ W ≤ 4096) (hp1 : (xs.length : Int) = W) (hp2 : (ys.length : Int) = W) (hp3 : U64s xs) (hp4 : U64s ys) (hp5 : (s = 0 ∨ s = 1) ∧ 0 ≤ b ∧ b ≤ l ∧ l ≤ 4096) (hp6 : l = W) (hp7 : 0 ≤ p ∧ p ≤ q ∧ q ≤ b) (hp8 : 0 ≤ a ∧ a ≤ 18446744073709551615) : Pub Try.prog 40 [.agg (mm W xs ys ++ [.int .i64 s, .int .i64 b, .int .i64 l, .int .i64 p, .int .i64 q]), .int .u64 a] (fun rv => ((a = 0 ∨ ((oErr W xs ys a) = 0 ∧ (ldw xs ys a / 72057594037927936) ≠ 255 ∧ ((1 ≤ a / 4294967296 ∧ a / 4294967296 ≤ 2 ∧ a / 4294967296 - 1 = s) ∨ (ldw xs ys (a + 1)) ≠ 0))) ∧ rv = .bool true) ∨ ((¬ (a = 0 ∨ ((oErr W xs ys a) = 0 ∧ (ldw xs ys a / 72057594037927936) ≠ 255 ∧ ((1 ≤ a / 4294967296 ∧ a / 4294967296 ≤ 2 ∧ a / 4294967296 - 1 = s) ∨ (ldw xs ys (a + 1)) ≠ 0)))) ∧ rv = .bool false)) := by
 refine pub_of TT_ok Try.func40 rfl (by decide) (Nat.le_of_ble_eq_true (by kernel_rfl)) (by kernel_rfl) ?_
 refine rg [] 2 ⟨[(4, .f), (2, .p 0), (1, .u a)], [(0, .cells (mm W xs ys ++ [.i s, .i b, .i l, .i p, .i q]) 54)], 1⟩ [] trivial ?_
 refine xw_seq ?_
 refine reg ?_
 refine rk [] 3 0 ⟨[(10, .u a), (9, .agg (mm W xs ys)), (4, .f), (2, .p 0), (1, .u a)], [(0, .cells (mm W xs ys ++ [.i s, .i b, .i l, .i p, .i q]) 54)], 1⟩ [True] ⟨trivial, trivial⟩ ?_
 by_cases h0 : ((oErr W xs ys a) = 0) ∧ ((ldw xs ys a / 72057594037927936) ≠ 255)
 ·
  refine pc (otwin_1 W xs ys a ‹_› ‹_› ‹_› ‹_› ‹_› ‹_› (by omega) (by omega)) ?_
  obtain ⟨h1, h2, h3⟩ := oErr_ok W xs ys a (by omega)
  have h4 : 0 ≤ (ldw xs ys (a + 1)) ∧ (ldw xs ys (a + 1)) ≤ 18446744073709551615 := ldw_ok xs ys (a + 1) ‹_› ‹_›
  have h5 : 1 ≤ (a + 1) / 4294967296 ∧ (a + 1) / 4294967296 ≤ 2 ∧ (a + 1) % 4294967296 < W := by omega
  refine rk [] 5 4 ⟨[(6, .i 0), (5, .u (ldw xs ys (a + 1))), (4, .f), (2, .p 0), (1, .u a)], [(0, .cells (mm W xs ys ++ [.i s, .i b, .i l, .i p, .i q]) 54)], 1⟩ [] trivial ?_
  refine en ?_
  refine an ?_
  refine xw_seq ?_
  refine xw_block ?_
  refine rg [(1, .f)] 3 ⟨[(14, .f), (6, .i 0), (5, .u (ldw xs ys (a + 1))), (4, .f), (2, .p 0), (1, .u a)], [(0, .cells (mm W xs ys ++ [.i s, .i b, .i l, .i p, .i q]) 54)], 1⟩ [(a == 0) = false] ⟨beq_eq_false_iff_ne.2 (by omega), trivial⟩ ?_
  refine cf ?_
  refine rg [(1, .f)] 3 ⟨[(17, .f), (5, .u (ldw xs ys (a + 1))), (4, .f), (2, .p 0), (1, .u a)], [(0, .cells (mm W xs ys ++ [.i s, .i b, .i l, .i p, .i q]) 54)], 1⟩ [(0 != 0) = false] ⟨bne_eq_false_iff_eq.2 (by omega), trivial⟩ ?_
  refine cf ?_
  refine xw_skip ?_
  refine ib ?_
  refine an ?_
  refine xw_seq ?_
  refine reg ?_
  refine rk [] 2 0 ⟨[(21, .u a), (20, .agg (mm W xs ys ++ [.i s, .i b, .i l, .i p, .i q])), (5, .u (ldw xs ys (a + 1))), (4, .f)], [], 1⟩ [True] ⟨trivial, trivial⟩ ?_
  by_cases h6 : 1 ≤ a / 4294967296 ∧ a / 4294967296 ≤ 2 ∧ a / 4294967296 - 1 = s
  ·
   refine pc (tover_1 W xs ys s b l p q a ‹_› ‹_› ‹_› ‹_› ‹_› ‹_› ‹_› ‹_› ‹_› (by omega)) ?_
   refine rk [] 5 3 ⟨[(4, .t)], [], 1⟩ [True] ⟨trivial, trivial⟩ ?_
   refine en ?_
   refine an ?_
   refine xw_ret ?_
   exact bs (.t) (Or.inl <| ⟨(by omega), rfl⟩)
  ·
   refine pc (tover_2 W xs ys s b l p q a ‹_› ‹_› ‹_› ‹_› ‹_› ‹_› ‹_› ‹_› ‹_› (by omega)) ?_
   refine rk [(5, .bool ((ldw xs ys (a + 1)) != 0))] 5 3 ⟨[(4, .bool ((ldw xs ys (a + 1)) != 0))], [], 1⟩ [((ldw xs ys (a + 1)) != 0) = ((ldw xs ys (a + 1)) != 0), True] ⟨rfl, trivial, trivial⟩ ?_
   refine en ?_
   refine an ?_
   refine xw_ret ?_
   by_cases h7 : (ldw xs ys (a + 1)) ≠ 0
   ·
    exact bk_ret (.bool ((ldw xs ys (a + 1)) != 0)) (.bool ((ldw xs ys (a + 1)) != 0)) (.t) (by kernel_rfl) (by kernel_rfl) (wkd [((ldw xs ys (a + 1)) != 0) = true] (by kernel_rfl) ⟨(by first | exact decide_eq_true (by omega) | exact decide_eq_false (by omega) | (simp; done) | (simp; omega) | simp_all | grind), trivial⟩) (Or.inl <| ⟨(by omega), rfl⟩)
   ·
    exact bk_ret (.bool ((ldw xs ys (a + 1)) != 0)) (.bool ((ldw xs ys (a + 1)) != 0)) (.f) (by kernel_rfl) (by kernel_rfl) (wkd [((ldw xs ys (a + 1)) != 0) = false] (by kernel_rfl) ⟨(by first | exact decide_eq_true (by omega) | exact decide_eq_false (by omega) | (simp; done) | (simp; omega) | simp_all | grind), trivial⟩) (Or.inr <| ⟨(by omega), rfl⟩)
 ·
  by_cases h1 : ((oErr W xs ys a) = 0) ∧ ((ldw xs ys a / 72057594037927936) = 255)
  ·
   refine pc (otwin_2 W xs ys a ‹_› ‹_› ‹_› ‹_› ‹_› ‹_› (by omega) (by omega)) ?_
   obtain ⟨h2, h3, h4⟩ := oErr_ok W xs ys a (by omega)
   refine rk [] 5 4 ⟨[(6, .i 8), (5, .u 0), (4, .f), (2, .p 0), (1, .u a)], [(0, .cells (mm W xs ys ++ [.i s, .i b, .i l, .i p, .i q]) 54)], 1⟩ [] trivial ?_
   refine en ?_
   refine an ?_
   refine xw_seq ?_
   refine xw_block ?_
   refine rg [(1, .f)] 3 ⟨[(14, .f), (6, .i 8), (5, .u 0), (4, .f), (2, .p 0), (1, .u a)], [(0, .cells (mm W xs ys ++ [.i s, .i b, .i l, .i p, .i q]) 54)], 1⟩ [(a == 0) = false] ⟨beq_eq_false_iff_ne.2 (by omega), trivial⟩ ?_
   refine cf ?_
   refine rg [(1, .t)] 3 ⟨[(17, .t), (5, .u 0), (4, .f), (2, .p 0), (1, .u a)], [(0, .cells (mm W xs ys ++ [.i s, .i b, .i l, .i p, .i q]) 54)], 1⟩ [(8 != 0) = true] ⟨bne_iff_ne.2 (by omega), trivial⟩ ?_
   refine ct ?_
   refine rg [] 1 ⟨[(4, .f), (5, .u 0), (2, .p 0), (1, .u a)], [(0, .cells (mm W xs ys ++ [.i s, .i b, .i l, .i p, .i q]) 54)], 1⟩ [] trivial ?_
   refine xw_ret ?_
   refine ib_ret ?_
   refine an_ret ?_
   exact bs (.f) (Or.inr <| ⟨(by omega), rfl⟩)
  ·
   refine pc (otwin_3 W xs ys a ‹_› ‹_› ‹_› ‹_› ‹_› ‹_› (by omega)) ?_
   have h2 : (oErr W xs ys a) = 2 ∨ (oErr W xs ys a) = 10 := oErr_no W xs ys a (by omega)
   refine rk [] 5 4 ⟨[(6, .i (oErr W xs ys a)), (5, .u 0), (4, .f), (2, .p 0), (1, .u a)], [(0, .cells (mm W xs ys ++ [.i s, .i b, .i l, .i p, .i q]) 54)], 1⟩ [] trivial ?_
   refine en ?_
   refine an ?_
   refine xw_seq ?_
   refine xw_block ?_
   refine rg [(1, .bool (a == 0))] 3 ⟨[(14, .bool (a == 0)), (6, .i (oErr W xs ys a)), (5, .u 0), (4, .f), (2, .p 0), (1, .u a)], [(0, .cells (mm W xs ys ++ [.i s, .i b, .i l, .i p, .i q]) 54)], 1⟩ [(a == 0) = (a == 0)] ⟨rfl, trivial⟩ ?_
   refine xw_cond (b := (a == 0)) (by kernel_rfl) (fun h3 => ?_) (fun h3 => ?_)
   ·
    replace h3 : a = 0 := eq_of_beq h3
    refine rg [] 1 ⟨[(4, .t), (5, .u 0), (2, .p 0), (1, .u a)], [(0, .cells (mm W xs ys ++ [.i s, .i b, .i l, .i p, .i q]) 54)], 1⟩ [] trivial ?_
    refine xw_ret ?_
    refine ib_ret ?_
    refine an_ret ?_
    exact bs (.t) (Or.inl <| ⟨(by omega), rfl⟩)
   ·
    replace h3 : a ≠ 0 := ne_of_beq_false h3
    refine rg [(1, .t)] 3 ⟨[(17, .t), (5, .u 0), (4, .f), (2, .p 0), (1, .u a)], [(0, .cells (mm W xs ys ++ [.i s, .i b, .i l, .i p, .i q]) 54)], 1⟩ [((oErr W xs ys a) != 0) = true] ⟨bne_iff_ne.2 (by omega), trivial⟩ ?_
    refine ct ?_
    refine rg [] 1 ⟨[(4, .f), (5, .u 0), (2, .p 0), (1, .u a)], [(0, .cells (mm W xs ys ++ [.i s, .i b, .i l, .i p, .i q]) 54)], 1⟩ [] trivial ?_
    refine xw_ret ?_
    refine ib_ret ?_
    refine an_ret ?_
    exact bs (.f) (Or.inr <| ⟨(by omega), rfl⟩)

theorem tmade_1 (W : Int) (xs : List Int) (ys : List Int) (s : Int) (b : Int) (l : Int) (p : Int) (q : Int) (a : Int) (hp0 : 16 ≤ W ∧ W ≤ 4096) (hp1 : (xs.length : Int) = W) (hp2 : (ys.length : Int) = W) (hp3 : U64s xs) (hp4 : U64s ys) (hp5 : (s = 0 ∨ s = 1) ∧ 0 ≤ b ∧ b ≤ l ∧ l ≤ 4096) (hp6 : l = W) (hp7 : 0 ≤ p ∧ p ≤ q ∧ q ≤ b) (hp8 : 0 ≤ a ∧ a ≤ 18446744073709551615) (hp9 : a = 0 ∨ ((oErr W xs ys a) = 0 ∧ (ldw xs ys a / 72057594037927936) ≠ 255 ∧ ((1 ≤ a / 4294967296 ∧ a / 4294967296 ≤ 2 ∧ a / 4294967296 - 1 = s) ∨ (ldw xs ys (a + 1)) ≠ 0))) : Pub Try.prog 40 [.agg (mm W xs ys ++ [.int .i64 s, .int .i64 b, .int .i64 l, .int .i64 p, .int .i64 q]), .int .u64 a] (fun rv => rv = .bool true) := by
  refine (tmade W xs ys s b l p q a hp0 hp1 hp2 hp3 hp4 hp5 hp6 hp7 hp8).mono ?_
  rintro _ (⟨g0, rfl⟩ | ⟨g0, rfl⟩)
  · rfl
  · exfalso; first | omega | grind

theorem tmade_2 (W : Int) (xs : List Int) (ys : List Int) (s : Int) (b : Int) (l : Int) (p : Int) (q : Int) (a : Int) (hp0 : 16 ≤ W ∧ W ≤ 4096) (hp1 : (xs.length : Int) = W) (hp2 : (ys.length : Int) = W) (hp3 : U64s xs) (hp4 : U64s ys) (hp5 : (s = 0 ∨ s = 1) ∧ 0 ≤ b ∧ b ≤ l ∧ l ≤ 4096) (hp6 : l = W) (hp7 : 0 ≤ p ∧ p ≤ q ∧ q ≤ b) (hp8 : 0 ≤ a ∧ a ≤ 18446744073709551615) (hp9 : ¬ (a = 0 ∨ ((oErr W xs ys a) = 0 ∧ (ldw xs ys a / 72057594037927936) ≠ 255 ∧ ((1 ≤ a / 4294967296 ∧ a / 4294967296 ≤ 2 ∧ a / 4294967296 - 1 = s) ∨ (ldw xs ys (a + 1)) ≠ 0)))) : Pub Try.prog 40 [.agg (mm W xs ys ++ [.int .i64 s, .int .i64 b, .int .i64 l, .int .i64 p, .int .i64 q]), .int .u64 a] (fun rv => rv = .bool false) := by
  refine (tmade W xs ys s b l p q a hp0 hp1 hp2 hp3 hp4 hp5 hp6 hp7 hp8).mono ?_
  rintro _ (⟨g0, rfl⟩ | ⟨g0, rfl⟩)
  · exfalso; first | omega | grind
  · rfl

set_option maxHeartbeats 8000000 in
theorem each0L (W : Int) (xs : List Int) (ys : List Int) (s : Int) (b : Int) (l : Int) (p : Int) (q : Int) (zs : List Int) (hp0 : 16 ≤ W ∧ W ≤ 4096) (hp1 : (xs.length : Int) = W) (hp2 : (ys.length : Int) = W) (hp3 : U64s xs) (hp4 : U64s ys) (hp5 : (s = 0 ∨ s = 1) ∧ 0 ≤ b ∧ b ≤ l ∧ l ≤ 4096) (hp6 : l = W) (hp7 : 0 ≤ p ∧ p ≤ q ∧ q ≤ b) (hp8 : U64s zs) (hp9 : (zs.length : Int) ≤ 4096) : Pub Try.prog 73 [.agg (mm W xs ys ++ [.int .i64 s, .int .i64 b, .int .i64 l, .int .i64 p, .int .i64 q]), .sl false 1 (m64 zs)] (fun rv => (∃ X1 : List Int, ∃ Y1 : List Int, ∃ B1 : Int, ∃ T1 : List Int, ((X1.length : Int) = W) ∧ ((Y1.length : Int) = W) ∧ (U64s X1) ∧ (U64s Y1) ∧ (b ≤ B1 ∧ B1 ≤ l) ∧ ((T1.length : Int) = (zs.length : Int)) ∧ (U64s T1) ∧ (TwAll W X1 Y1 s zs T1) ∧ rv = .tup [.agg (mm W X1 Y1 ++ [.int .i64 s, .int .i64 B1, .int .i64 l, .int .i64 p, .int .i64 q]), .sl false 1 (m64 T1), .int .i64 0]) ∨ (∃ X1 : List Int, ∃ Y1 : List Int, ∃ B1 : Int, ∃ E1 : Int, ((X1.length : Int) = W) ∧ ((Y1.length : Int) = W) ∧ (U64s X1) ∧ (U64s Y1) ∧ (b ≤ B1 ∧ B1 ≤ l) ∧ (E1 ≠ 0) ∧ (0 ≤ E1 ∧ E1 ≤ 100) ∧ rv = .tup [.agg (mm W X1 Y1 ++ [.int .i64 s, .int .i64 B1, .int .i64 l, .int .i64 p, .int .i64 q]), .nils, .int .i64 E1])) := by
 refine pub_of TT_ok Try.func73 rfl (by decide) (Nat.le_of_ble_eq_true (by kernel_rfl)) (by kernel_rfl) ?_
 refine rg [] 4 ⟨[(6, .i 0), (5, .nils), (4, .p 1), (2, .p 0), (1, .sl false 1 (m64 zs))], [(1, .cells [.i 0, .nils, .nils, .i 0, .i 0, .i 0, .i 0, .i 0] 54), (0, .cells (mm W xs ys ++ [.i s, .i b, .i l, .i p, .i q]) 54)], 2⟩ [] trivial ?_
 refine rg [] 1 ⟨[(7, .nils), (6, .i 0), (5, .nils), (4, .p 1), (2, .p 0), (1, .sl false 1 (m64 zs))], [(1, .cells [.i 0, .nils, .nils, .i 0, .i 0, .i 0, .i 0, .i 0] 54), (0, .cells (mm W xs ys ++ [.i s, .i b, .i l, .i p, .i q]) 54)], 2⟩ [] trivial ?_
 refine xw_seq ?_
 refine rg [(1, .i ((zs).length : Int))] 3 ⟨[(15, .i 0), (14, .i ((zs).length : Int)), (13, .sl false 1 (m64 zs)), (7, .nils), (6, .i 0), (5, .nils), (4, .p 1), (2, .p 0)], [(1, .cells [.i 0, .nils, .nils, .i 0, .i 0, .i 0, .i 0, .i 0] 54), (0, .cells (mm W xs ys ++ [.i s, .i b, .i l, .i p, .i q]) 54)], 2⟩ [((((m64 zs)).length : Nat) : Int) = ((zs).length : Int)] ⟨(by simp), trivial⟩ ?_
 refine xw_block ?_
 refine xw_nilrow 7 1 26 (by kernel_rfl) ?_
 refine xw_loop (α := {qq : List Int × List Int × Int × List Int × Int // (0 ≤ qq.2.2.2.2) ∧ (qq.2.2.2.2 ≤ (zs.length : Int)) ∧ ((qq.2.2.2.1.length : Int) = qq.2.2.2.2) ∧ ((qq.1.length : Int) = W) ∧ ((qq.2.1.length : Int) = W) ∧ (b ≤ qq.2.2.1 ∧ qq.2.2.1 ≤ l) ∧ (U64s qq.1) ∧ (U64s qq.2.1) ∧ (U64s qq.2.2.2.1) ∧ (TwAll W qq.1 qq.2.1 s zs qq.2.2.2.1)}) (fun pp => ⟨[(7, .own 2), (15, .i pp.1.2.2.2.2), (14, .i ((zs).length : Int)), (13, .sl false 1 (m64 zs)), (6, .i 0), (5, .nils), (4, .p 1), (2, .p 0)], [(2, .row 1 26 (m64 pp.1.2.2.2.1)), (1, .cells [.i 0, .nils, .nils, .i 0, .i 0, .i 0, .i 0, .i 0] 54), (0, .cells (mm W pp.1.1 pp.1.2.1 ++ [.i s, .i pp.1.2.2.1, .i l, .i p, .i q]) 54)], 3⟩) (fun pp => ((zs.length : Int) - pp.1.2.2.2.2).toNat) ⟨(xs, ys, b, [ ], 0), ⟨(show (0 : Int) ≤ 0 by omega), (show 0 ≤ (zs.length : Int) by omega), (show ([ ].length : Int) = 0 by first | omega | assumption | rfl | (simp; omega)), (show (xs.length : Int) = W by omega), (show (ys.length : Int) = W by omega), (show b ≤ b ∧ b ≤ l by omega), (show U64s xs by assumption), (show U64s ys by assumption), (show U64s [ ] by first | exact U64s.nil | exact U64s.append ‹_› (U64s.cons (by omega) U64s.nil)), (show TwAll W xs ys s zs [ ] by first | exact TwAll.nil | exact twa_0 (k := i1) ‹_› (by omega) (by omega) | exact twa_over (k := i1) ‹_› (by omega) (by omega) (by omega) (by omega) | exact twa_had (k := i1) ‹_› (by omega) (by omega) (by omega) (by omega) (by omega) (by omega) | exact twa_new (k := i1) ‹_› (by omega) (by omega) (by omega) (by omega) (by omega) (by omega) (by omega) (by omega) (by omega) (by omega) (by omega) (by omega))⟩⟩ (le_of [] [(0 : Int) = 0, (((zs).length : Int) : Int) = ((zs).length : Int), (false = true → false = true), ((m64 zs) : List SV) = (m64 zs), (0 : Int) = 0, ((m64 []) : List SV) = (m64 [ ]), (0 : Int) = 0, (0 : Int) = 0, (0 : Int) = 0, (0 : Int) = 0, (0 : Int) = 0, (0 : Int) = 0, (W : Int) = W, (false = true → false = true), ((m64 xs) : List SV) = (m64 xs), (false = true → false = true), ((m64 ys) : List SV) = (m64 ys), (s : Int) = s, (b : Int) = b, (l : Int) = l, (p : Int) = p, (q : Int) = q] (by kernel_rfl) ⟨rfl, rfl, id, rfl, rfl, (by first | omega | assumption | rfl | (simp; omega)), rfl, rfl, rfl, rfl, rfl, rfl, rfl, id, rfl, id, rfl, rfl, rfl, rfl, rfl, rfl, trivial⟩) ?_
 rintro ⟨⟨xs1, ys1, b1, ts, i1⟩, h0, h1, h2, h3, h4, h5, h6, h7, h8, h9⟩
 try dsimp only at h0 h1 h2 h3 h4 h5 h6 h7 h8 h9
 show XW _ _ _ _ _ ⟨[(7, .own 2), (15, .int .i64 i1), (14, .int .i64 ((zs).length : Int)), (13, .sl false 1 (m64 zs)), (6, .int .i64 0), (5, .nils), (4, .loc 1 0), (2, .loc 0 0)], [(2, .row 1 26 (m64 ts)), (1, .cells [.int .i64 0, .nils, .nils, .int .i64 0, .int .i64 0, .int .i64 0, .int .i64 0, .int .i64 0] 54), (0, .cells (mm W xs1 ys1 ++ [.int .i64 s, .int .i64 b1, .int .i64 l, .int .i64 p, .int .i64 q]) 54)], 3⟩
 refine rg [(0, .bool (decide (i1 < ((zs).length : Int))))] 1 ⟨[(16, .bool (decide (i1 < ((zs).length : Int)))), (7, .own 2), (15, .i i1), (14, .i ((zs).length : Int)), (13, .sl false 1 (m64 zs)), (6, .i 0), (5, .nils), (4, .p 1), (2, .p 0)], [(2, .row 1 26 (m64 ts)), (1, .cells [.i 0, .nils, .nils, .i 0, .i 0, .i 0, .i 0, .i 0] 54), (0, .cells (mm W xs1 ys1 ++ [.i s, .i b1, .i l, .i p, .i q]) 54)], 3⟩ [(decide (i1 < ((zs).length : Int))) = (decide (i1 < ((zs).length : Int)))] ⟨rfl, trivial⟩ ?_
 refine xw_seq ?_
 refine xw_cond (b := (decide (i1 < ((zs).length : Int)))) (by kernel_rfl) (fun h10 => ?_) (fun h10 => ?_)
 ·
  replace h10 : i1 < (zs.length : Int) := of_decide_eq_true h10
  refine xw_skip ?_
  refine an ?_
  refine xw_seq ?_
  refine xw_block ?_
  refine xw_seq ?_
  refine reg ?_
  refine rk [(0, .u (ix zs i1))] 1 0 ⟨[(17, .elt (.u (ix zs i1))), (7, .own 2), (15, .i i1), (14, .i ((zs).length : Int)), (13, .sl false 1 (m64 zs)), (6, .i 0), (5, .nils), (4, .p 1), (2, .p 0)], [(2, .row 1 26 (m64 ts)), (1, .cells [.i 0, .nils, .nils, .i 0, .i 0, .i 0, .i 0, .i 0] 54), (0, .cells (mm W xs1 ys1 ++ [.i s, .i b1, .i l, .i p, .i q]) 54)], 3⟩ [(0 : Int) ≤ i1 ∧ i1 < ((((m64 zs)).length : Nat) : Int) ∧ ((m64 zs))[(i1 : Int).toNat]? = some (.u (ix zs i1))] ⟨(ix_ok (by omega) (by first | omega | (simp only [len_st]; omega) | (simp; done) | (simp; omega) | (simp [len_st, len_stx, len_sty, len_zx, len_zy]; omega))), trivial⟩ ?_
  have h11 : 0 ≤ (ix zs i1) ∧ (ix zs i1) ≤ 18446744073709551615 := U64s.ix (by first | assumption | exact U64s.st (by assumption) _ (by omega)) _
  refine rk [] 2 1 ⟨[(9, .u (ix zs i1)), (7, .own 2), (15, .i i1), (14, .i ((zs).length : Int)), (13, .sl false 1 (m64 zs)), (6, .i 0), (5, .nils), (4, .p 1), (2, .p 0)], [(2, .row 1 26 (m64 ts)), (1, .cells [.i 0, .nils, .nils, .i 0, .i 0, .i 0, .i 0, .i 0] 54), (0, .cells (mm W xs1 ys1 ++ [.i s, .i b1, .i l, .i p, .i q]) 54)], 3⟩ [True] ⟨trivial, trivial⟩ ?_
  refine en ?_
  refine an ?_
  refine xw_seq ?_
  refine reg ?_
  refine rk [] 2 0 ⟨[(21, .u (ix zs i1)), (20, .agg (mm W xs1 ys1 ++ [.i s, .i b1, .i l, .i p, .i q])), (7, .own 2), (15, .i i1), (14, .i ((zs).length : Int)), (13, .sl false 1 (m64 zs)), (6, .i 0), (5, .nils), (4, .p 1), (2, .p 0)], [(2, .row 1 26 (m64 ts)), (1, .cells [.i 0, .nils, .nils, .i 0, .i 0, .i 0, .i 0, .i 0] 54), (0, .cells (mm W xs1 ys1 ++ [.i s, .i b1, .i l, .i p, .i q]) 54)], 3⟩ [True] ⟨trivial, trivial⟩ ?_
  by_cases h12 : (ix zs i1) = 0
  ·
   refine pc (tto_1 W xs1 ys1 s b1 l p q (ix zs i1) ‹_› ‹_› ‹_› ‹_› ‹_› (by omega) ‹_› (by omega) ‹_› ‹_›) ?_
   refine rk [] 8 3 ⟨[(12, .i 0), (11, .u 0), (10, .p 3), (7, .own 2), (15, .i i1), (14, .i ((zs).length : Int)), (13, .sl false 1 (m64 zs)), (6, .i 0), (5, .nils), (4, .p 1), (2, .p 0)], [(3, .cells (mm W xs1 ys1 ++ [.i s, .i b1, .i l, .i p, .i q]) 54), (2, .row 1 26 (m64 ts)), (1, .cells [.i 0, .nils, .nils, .i 0, .i 0, .i 0, .i 0, .i 0] 54), (0, .cells (mm W xs1 ys1 ++ [.i s, .i b1, .i l, .i p, .i q]) 54)], 4⟩ [True] ⟨trivial, trivial⟩ ?_
   refine en ?_
   refine an ?_
   refine xw_seq ?_
   refine rg [(1, .f)] 2 ⟨[(27, .f), (12, .i 0), (11, .u 0), (10, .p 3), (7, .own 2), (15, .i i1), (14, .i ((zs).length : Int)), (13, .sl false 1 (m64 zs)), (6, .i 0), (5, .nils), (4, .p 1), (2, .p 0)], [(3, .cells (mm W xs1 ys1 ++ [.i s, .i b1, .i l, .i p, .i q]) 54), (2, .row 1 26 (m64 ts)), (1, .cells [.i 0, .nils, .nils, .i 0, .i 0, .i 0, .i 0, .i 0] 54), (0, .cells (mm W xs1 ys1 ++ [.i s, .i b1, .i l, .i p, .i q]) 54)], 4⟩ [(0 != 0) = false] ⟨bne_eq_false_iff_eq.2 (by omega), trivial⟩ ?_
   refine cf ?_
   refine xw_skip ?_
   refine an ?_
   refine sreg hmix [([(3, .cells (mm W xs1 ys1 ++ [.i s, .i b1, .i l, .i p, .i q]) 54), (2, .row 1 26 (m64 ts)), (1, .cells [.i 0, .nils, .nils, .i 0, .i 0, .i 0, .i 0, .i 0] 54), (0, .cells (mm W xs1 ys1 ++ [.i s, .i b1, .i l, .i p, .i q]) 54)], 4), ([(4, .row 1 26 (((m64 ts)) ++ ([.u 0]))), (3, .cells (mm W xs1 ys1 ++ [.i s, .i b1, .i l, .i p, .i q]) 54), (1, .cells [.i 0, .nils, .nils, .i 0, .i 0, .i 0, .i 0, .i 0] 54), (0, .cells (mm W xs1 ys1 ++ [.i s, .i b1, .i l, .i p, .i q]) 54)], 5), ([(4, .row 1 26 (((m64 ts)) ++ ([.u 0]))), (3, .cells (mm W xs1 ys1 ++ [.i s, .i b1, .i l, .i p, .i q]) 54), (1, .cells [.i 0, .nils, .nils, .i 0, .i 0, .i 0, .i 0, .i 0] 54), (0, .cells (mm W xs1 ys1 ++ [.i s, .i b1, .i l, .i p, .i q]) 54)], 5)] [4, 5] [(3, [2]), (4, [1, 2, 3]), (5, [0, 1, 2, 3, 4]), (6, [0, 1, 2, 3, 4, 5])] rfl (by kernel_rfl) (by kernel_rfl) (by kernel_rfl) (by kernel_rfl) ?_
   refine sr [(3, .t)] 7 0 [(7, .own 4), (34, .own 4), (33, .sl false 1 [.u 0]), (32, .u 0), (31, .own 2), (30, .agg (mm W xs1 ys1 ++ [.i s, .i b1, .i l, .i p, .i q])), (27, .f), (12, .i 0), (11, .u 0), (10, .p 3), (7, .own 2), (15, .i i1), (14, .i ((zs).length : Int)), (13, .sl false 1 (m64 zs)), (6, .i 0), (5, .nils), (4, .p 1), (2, .p 0)] [True, (SV.agg (mm W xs1 ys1 ++ [.i s, .i b1, .i l, .i p, .i q])) = SV.agg (mm W xs1 ys1 ++ [.i s, .i b1, .i l, .i p, .i q]), True, True, True, True, (∀ y ∈ ([.u 0] : List SV), ElemOk y) ∧ (false = true → 1 ≤ ([.u 0] : List SV).length ∧ ∀ x ∈ ((m64 ts) : List SV), ElemOk x) ∧ (((m64 ts) : List SV).length + ([.u 0] : List SV).length) * 8 ≤ 140737488355328 ∧ ((m64 ts) : List SV).length + ([.u 0] : List SV).length ≤ 4611686018427387904, ([(4, .row 1 26 (((m64 ts)) ++ ([.u 0]))), (3, .cells (mm W xs1 ys1 ++ [.i s, .i b1, .i l, .i p, .i q]) 54), (1, .cells [.i 0, .nils, .nils, .i 0, .i 0, .i 0, .i 0, .i 0] 54), (0, .cells (mm W xs1 ys1 ++ [.i s, .i b1, .i l, .i p, .i q]) 54)] : Mem) = [(4, .row 1 26 (((m64 ts)) ++ ([.u 0]))), (3, .cells (mm W xs1 ys1 ++ [.i s, .i b1, .i l, .i p, .i q]) 54), (1, .cells [.i 0, .nils, .nils, .i 0, .i 0, .i 0, .i 0, .i 0] 54), (0, .cells (mm W xs1 ys1 ++ [.i s, .i b1, .i l, .i p, .i q]) 54)], (5 : Nat) = 5, True, ([(4, .row 1 26 (((m64 ts)) ++ ([.u 0]))), (3, .cells (mm W xs1 ys1 ++ [.i s, .i b1, .i l, .i p, .i q]) 54), (1, .cells [.i 0, .nils, .nils, .i 0, .i 0, .i 0, .i 0, .i 0] 54), (0, .cells (mm W xs1 ys1 ++ [.i s, .i b1, .i l, .i p, .i q]) 54)] : Mem) = [(4, .row 1 26 (((m64 ts)) ++ ([.u 0]))), (3, .cells (mm W xs1 ys1 ++ [.i s, .i b1, .i l, .i p, .i q]) 54), (1, .cells [.i 0, .nils, .nils, .i 0, .i 0, .i 0, .i 0, .i 0] 54), (0, .cells (mm W xs1 ys1 ++ [.i s, .i b1, .i l, .i p, .i q]) 54)], (5 : Nat) = 5, True] ⟨trivial, rfl, trivial, trivial, trivial, trivial, ⟨(by intro y hy; simp at hy; first | (subst hy; rfl) | (rcases hy with rfl | rfl <;> rfl)), (fun h => by cases h), by first | omega | (simp only [len_st]; omega) | (simp; done) | (simp; omega) | (simp [len_st, len_stx, len_sty, len_zx, len_zy]; omega), by first | omega | (simp only [len_st]; omega) | (simp; done) | (simp; omega) | (simp [len_st, len_stx, len_sty, len_zx, len_zy]; omega)⟩, rfl, rfl, trivial, rfl, rfl, trivial, trivial⟩ ?_
   refine sen ?_
   refine ib ?_
   refine an ?_
   refine reg ?_
   refine setr 4 (z := 1) (E := 26) (L := (((m64 ts)) ++ ([.u 0]))) (L' := (m64 (ts ++ [0]))) (by kernel_rfl) app_one ?_
   refine rk [(0, .i (i1 + 1))] 2 0 ⟨[(15, .i (i1 + 1)), (7, .own 4), (14, .i ((zs).length : Int)), (13, .sl false 1 (m64 zs)), (6, .i 0), (5, .nils), (4, .p 1), (2, .p 0)], [(4, .row 1 26 (m64 (ts ++ [0]))), (1, .cells [.i 0, .nils, .nils, .i 0, .i 0, .i 0, .i 0, .i 0] 54), (0, .cells (mm W xs1 ys1 ++ [.i s, .i b1, .i l, .i p, .i q]) 54)], 5⟩ [IntKind.i64.wrap (i1 + 1) = (i1 + 1)] ⟨i64_eq (by omega) (by omega), trivial⟩ ?_
   refine en ?_
   exact ag ⟨(xs1, ys1, b1, (ts ++ [ 0 ]), (i1 + 1)), ⟨(show 0 ≤ (i1 + 1) by omega), (show (i1 + 1) ≤ (zs.length : Int) by omega), (show ((ts ++ [ 0 ]).length : Int) = (i1 + 1) by first | omega | assumption | rfl | (simp; omega)), (show (xs1.length : Int) = W by omega), (show (ys1.length : Int) = W by omega), (show b ≤ b1 ∧ b1 ≤ l by omega), (show U64s xs1 by assumption), (show U64s ys1 by assumption), (show U64s (ts ++ [ 0 ]) by first | exact U64s.nil | exact U64s.append ‹_› (U64s.cons (by omega) U64s.nil)), (show TwAll W xs1 ys1 s zs (ts ++ [ 0 ]) by first | exact TwAll.nil | exact twa_0 (k := i1) ‹_› (by omega) (by omega) | exact twa_over (k := i1) ‹_› (by omega) (by omega) (by omega) (by omega) | exact twa_had (k := i1) ‹_› (by omega) (by omega) (by omega) (by omega) (by omega) (by omega) | exact twa_new (k := i1) ‹_› (by omega) (by omega) (by omega) (by omega) (by omega) (by omega) (by omega) (by omega) (by omega) (by omega) (by omega) (by omega))⟩⟩ (le_of [(2, 4)] [((i1 + 1) : Int) = (i1 + 1), (((zs).length : Int) : Int) = ((zs).length : Int), (false = true → false = true), ((m64 zs) : List SV) = (m64 zs), (0 : Int) = 0, ((m64 (ts ++ [0])) : List SV) = (m64 (ts ++ [ 0 ])), (0 : Int) = 0, (0 : Int) = 0, (0 : Int) = 0, (0 : Int) = 0, (0 : Int) = 0, (0 : Int) = 0, (W : Int) = W, (false = true → false = true), ((m64 xs1) : List SV) = (m64 xs1), (false = true → false = true), ((m64 ys1) : List SV) = (m64 ys1), (s : Int) = s, (b1 : Int) = b1, (l : Int) = l, (p : Int) = p, (q : Int) = q] (by kernel_rfl) ⟨rfl, rfl, id, rfl, rfl, (by first | omega | assumption | rfl | (simp; omega)), rfl, rfl, rfl, rfl, rfl, rfl, rfl, id, rfl, id, rfl, rfl, rfl, rfl, rfl, rfl, trivial⟩) (by show ((zs.length : Int) - (i1 + 1)).toNat < ((zs.length : Int) - i1).toNat; omega)
  ·
   by_cases h13 : ¬ ((oErr W xs1 ys1 (ix zs i1)) = 0)
   ·
    refine pc (tto_2 W xs1 ys1 s b1 l p q (ix zs i1) ‹_› ‹_› ‹_› ‹_› ‹_› (by omega) ‹_› (by omega) ‹_› (by omega) ‹_›) ?_
    have h14 : (oErr W xs1 ys1 (ix zs i1)) = 2 ∨ (oErr W xs1 ys1 (ix zs i1)) = 10 := oErr_no W xs1 ys1 (ix zs i1) (by omega)
    refine rk [] 8 3 ⟨[(12, .i (oErr W xs1 ys1 (ix zs i1))), (11, .u 0), (10, .p 3), (7, .own 2), (15, .i i1), (14, .i ((zs).length : Int)), (13, .sl false 1 (m64 zs)), (6, .i 0), (5, .nils), (4, .p 1), (2, .p 0)], [(3, .cells (mm W xs1 ys1 ++ [.i s, .i b1, .i l, .i p, .i q]) 54), (2, .row 1 26 (m64 ts)), (1, .cells [.i 0, .nils, .nils, .i 0, .i 0, .i 0, .i 0, .i 0] 54), (0, .cells (mm W xs1 ys1 ++ [.i s, .i b1, .i l, .i p, .i q]) 54)], 4⟩ [True] ⟨trivial, trivial⟩ ?_
    refine en ?_
    refine an ?_
    refine xw_seq ?_
    refine rg [(1, .t)] 2 ⟨[(27, .t), (12, .i (oErr W xs1 ys1 (ix zs i1))), (11, .u 0), (10, .p 3), (7, .own 2), (15, .i i1), (14, .i ((zs).length : Int)), (13, .sl false 1 (m64 zs)), (6, .i 0), (5, .nils), (4, .p 1), (2, .p 0)], [(3, .cells (mm W xs1 ys1 ++ [.i s, .i b1, .i l, .i p, .i q]) 54), (2, .row 1 26 (m64 ts)), (1, .cells [.i 0, .nils, .nils, .i 0, .i 0, .i 0, .i 0, .i 0] 54), (0, .cells (mm W xs1 ys1 ++ [.i s, .i b1, .i l, .i p, .i q]) 54)], 4⟩ [((oErr W xs1 ys1 (ix zs i1)) != 0) = true] ⟨bne_iff_ne.2 (by omega), trivial⟩ ?_
    refine ct ?_
    refine rg [] 5 ⟨[(6, .i (oErr W xs1 ys1 (ix zs i1))), (5, .nils), (11, .u 0), (10, .p 3), (7, .own 2), (15, .i i1), (14, .i ((zs).length : Int)), (13, .sl false 1 (m64 zs)), (4, .p 1), (2, .p 0)], [(3, .cells (mm W xs1 ys1 ++ [.i s, .i b1, .i l, .i p, .i q]) 54), (2, .row 1 26 (m64 ts)), (1, .cells (mm W xs1 ys1 ++ [.i s, .i b1, .i l, .i p, .i q]) 54), (0, .cells (mm W xs1 ys1 ++ [.i s, .i b1, .i l, .i p, .i q]) 54)], 4⟩ [True, True] ⟨trivial, trivial, trivial⟩ ?_
    refine xw_ret ?_
    refine an_ret ?_
    refine ib_ret ?_
    refine an_ret ?_
    refine ag_ret ?_
    refine ib_ret ?_
    refine an_ret ?_
    exact bs (.tup [.agg (mm W xs1 ys1 ++ [.i s, .i b1, .i l, .i p, .i q]), .nils, .i (oErr W xs1 ys1 (ix zs i1))]) (Or.inr <| ⟨xs1, ys1, b1, (oErr W xs1 ys1 (ix zs i1)), (by omega), (by omega), (by first | rfl | omega | assumption), (by first | rfl | omega | assumption), (by omega), (by omega), (by omega), rfl⟩)
   ·
    by_cases h14 : (ldw xs1 ys1 (ix zs i1) / 72057594037927936) = 255
    ·
     refine pc (tto_3 W xs1 ys1 s b1 l p q (ix zs i1) ‹_› ‹_› ‹_› ‹_› ‹_› (by omega) ‹_› (by omega) ‹_› (by omega) (by omega) ‹_›) ?_
     obtain ⟨h15, h16, h17⟩ := oErr_ok W xs1 ys1 (ix zs i1) (by omega)
     refine rk [] 8 3 ⟨[(12, .i 8), (11, .u 0), (10, .p 3), (7, .own 2), (15, .i i1), (14, .i ((zs).length : Int)), (13, .sl false 1 (m64 zs)), (6, .i 0), (5, .nils), (4, .p 1), (2, .p 0)], [(3, .cells (mm W xs1 ys1 ++ [.i s, .i b1, .i l, .i p, .i q]) 54), (2, .row 1 26 (m64 ts)), (1, .cells [.i 0, .nils, .nils, .i 0, .i 0, .i 0, .i 0, .i 0] 54), (0, .cells (mm W xs1 ys1 ++ [.i s, .i b1, .i l, .i p, .i q]) 54)], 4⟩ [True] ⟨trivial, trivial⟩ ?_
     refine en ?_
     refine an ?_
     refine xw_seq ?_
     refine rg [(1, .t)] 2 ⟨[(27, .t), (12, .i 8), (11, .u 0), (10, .p 3), (7, .own 2), (15, .i i1), (14, .i ((zs).length : Int)), (13, .sl false 1 (m64 zs)), (6, .i 0), (5, .nils), (4, .p 1), (2, .p 0)], [(3, .cells (mm W xs1 ys1 ++ [.i s, .i b1, .i l, .i p, .i q]) 54), (2, .row 1 26 (m64 ts)), (1, .cells [.i 0, .nils, .nils, .i 0, .i 0, .i 0, .i 0, .i 0] 54), (0, .cells (mm W xs1 ys1 ++ [.i s, .i b1, .i l, .i p, .i q]) 54)], 4⟩ [(8 != 0) = true] ⟨bne_iff_ne.2 (by omega), trivial⟩ ?_
     refine ct ?_
     refine rg [] 5 ⟨[(6, .i 8), (5, .nils), (11, .u 0), (10, .p 3), (7, .own 2), (15, .i i1), (14, .i ((zs).length : Int)), (13, .sl false 1 (m64 zs)), (4, .p 1), (2, .p 0)], [(3, .cells (mm W xs1 ys1 ++ [.i s, .i b1, .i l, .i p, .i q]) 54), (2, .row 1 26 (m64 ts)), (1, .cells (mm W xs1 ys1 ++ [.i s, .i b1, .i l, .i p, .i q]) 54), (0, .cells (mm W xs1 ys1 ++ [.i s, .i b1, .i l, .i p, .i q]) 54)], 4⟩ [True, True] ⟨trivial, trivial, trivial⟩ ?_
     refine xw_ret ?_
     refine an_ret ?_
     refine ib_ret ?_
     refine an_ret ?_
     refine ag_ret ?_
     refine ib_ret ?_
     refine an_ret ?_
     exact bs (.tup [.agg (mm W xs1 ys1 ++ [.i s, .i b1, .i l, .i p, .i q]), .nils, .i 8]) (Or.inr <| ⟨xs1, ys1, b1, 8, (by omega), (by omega), (by first | rfl | omega | assumption), (by first | rfl | omega | assumption), (by omega), (by omega), (by omega), rfl⟩)
    ·
     by_cases h15 : (ix zs i1) / 4294967296 - 1 = s
     ·
      refine pc (tto_4 W xs1 ys1 s b1 l p q (ix zs i1) ‹_› ‹_› ‹_› ‹_› ‹_› (by omega) ‹_› (by omega) ‹_› (by omega) (by omega) (by omega) ‹_›) ?_
      obtain ⟨h16, h17, h18⟩ := oErr_ok W xs1 ys1 (ix zs i1) (by omega)
      have h19 : 1 ≤ ((ix zs i1) + 1) / 4294967296 ∧ ((ix zs i1) + 1) / 4294967296 ≤ 2 ∧ ((ix zs i1) + 1) % 4294967296 < W := by omega
      have h20 : 0 ≤ (ldw xs1 ys1 ((ix zs i1) + 1)) ∧ (ldw xs1 ys1 ((ix zs i1) + 1)) ≤ 18446744073709551615 := ldw_ok xs1 ys1 ((ix zs i1) + 1) ‹_› ‹_›
      refine rk [] 8 3 ⟨[(12, .i 0), (11, .u (ix zs i1)), (10, .p 3), (7, .own 2), (15, .i i1), (14, .i ((zs).length : Int)), (13, .sl false 1 (m64 zs)), (6, .i 0), (5, .nils), (4, .p 1), (2, .p 0)], [(3, .cells (mm W xs1 ys1 ++ [.i s, .i b1, .i l, .i p, .i q]) 54), (2, .row 1 26 (m64 ts)), (1, .cells [.i 0, .nils, .nils, .i 0, .i 0, .i 0, .i 0, .i 0] 54), (0, .cells (mm W xs1 ys1 ++ [.i s, .i b1, .i l, .i p, .i q]) 54)], 4⟩ [True] ⟨trivial, trivial⟩ ?_
      refine en ?_
      refine an ?_
      refine xw_seq ?_
      refine rg [(1, .f)] 2 ⟨[(27, .f), (12, .i 0), (11, .u (ix zs i1)), (10, .p 3), (7, .own 2), (15, .i i1), (14, .i ((zs).length : Int)), (13, .sl false 1 (m64 zs)), (6, .i 0), (5, .nils), (4, .p 1), (2, .p 0)], [(3, .cells (mm W xs1 ys1 ++ [.i s, .i b1, .i l, .i p, .i q]) 54), (2, .row 1 26 (m64 ts)), (1, .cells [.i 0, .nils, .nils, .i 0, .i 0, .i 0, .i 0, .i 0] 54), (0, .cells (mm W xs1 ys1 ++ [.i s, .i b1, .i l, .i p, .i q]) 54)], 4⟩ [(0 != 0) = false] ⟨bne_eq_false_iff_eq.2 (by omega), trivial⟩ ?_
      refine cf ?_
      refine xw_skip ?_
      refine an ?_
      refine sreg hmix [([(3, .cells (mm W xs1 ys1 ++ [.i s, .i b1, .i l, .i p, .i q]) 54), (2, .row 1 26 (m64 ts)), (1, .cells [.i 0, .nils, .nils, .i 0, .i 0, .i 0, .i 0, .i 0] 54), (0, .cells (mm W xs1 ys1 ++ [.i s, .i b1, .i l, .i p, .i q]) 54)], 4), ([(4, .row 1 26 (((m64 ts)) ++ ([.u (ix zs i1)]))), (3, .cells (mm W xs1 ys1 ++ [.i s, .i b1, .i l, .i p, .i q]) 54), (1, .cells [.i 0, .nils, .nils, .i 0, .i 0, .i 0, .i 0, .i 0] 54), (0, .cells (mm W xs1 ys1 ++ [.i s, .i b1, .i l, .i p, .i q]) 54)], 5), ([(4, .row 1 26 (((m64 ts)) ++ ([.u (ix zs i1)]))), (3, .cells (mm W xs1 ys1 ++ [.i s, .i b1, .i l, .i p, .i q]) 54), (1, .cells [.i 0, .nils, .nils, .i 0, .i 0, .i 0, .i 0, .i 0] 54), (0, .cells (mm W xs1 ys1 ++ [.i s, .i b1, .i l, .i p, .i q]) 54)], 5)] [4, 5] [(3, [2]), (4, [1, 2, 3]), (5, [0, 1, 2, 3, 4]), (6, [0, 1, 2, 3, 4, 5])] rfl (by kernel_rfl) (by kernel_rfl) (by kernel_rfl) (by kernel_rfl) ?_
      refine sr [(3, .t)] 7 0 [(7, .own 4), (34, .own 4), (33, .sl false 1 [.u (ix zs i1)]), (32, .u (ix zs i1)), (31, .own 2), (30, .agg (mm W xs1 ys1 ++ [.i s, .i b1, .i l, .i p, .i q])), (27, .f), (12, .i 0), (11, .u (ix zs i1)), (10, .p 3), (7, .own 2), (15, .i i1), (14, .i ((zs).length : Int)), (13, .sl false 1 (m64 zs)), (6, .i 0), (5, .nils), (4, .p 1), (2, .p 0)] [True, (SV.agg (mm W xs1 ys1 ++ [.i s, .i b1, .i l, .i p, .i q])) = SV.agg (mm W xs1 ys1 ++ [.i s, .i b1, .i l, .i p, .i q]), True, True, True, True, (∀ y ∈ ([.u (ix zs i1)] : List SV), ElemOk y) ∧ (false = true → 1 ≤ ([.u (ix zs i1)] : List SV).length ∧ ∀ x ∈ ((m64 ts) : List SV), ElemOk x) ∧ (((m64 ts) : List SV).length + ([.u (ix zs i1)] : List SV).length) * 8 ≤ 140737488355328 ∧ ((m64 ts) : List SV).length + ([.u (ix zs i1)] : List SV).length ≤ 4611686018427387904, ([(4, .row 1 26 (((m64 ts)) ++ ([.u (ix zs i1)]))), (3, .cells (mm W xs1 ys1 ++ [.i s, .i b1, .i l, .i p, .i q]) 54), (1, .cells [.i 0, .nils, .nils, .i 0, .i 0, .i 0, .i 0, .i 0] 54), (0, .cells (mm W xs1 ys1 ++ [.i s, .i b1, .i l, .i p, .i q]) 54)] : Mem) = [(4, .row 1 26 (((m64 ts)) ++ ([.u (ix zs i1)]))), (3, .cells (mm W xs1 ys1 ++ [.i s, .i b1, .i l, .i p, .i q]) 54), (1, .cells [.i 0, .nils, .nils, .i 0, .i 0, .i 0, .i 0, .i 0] 54), (0, .cells (mm W xs1 ys1 ++ [.i s, .i b1, .i l, .i p, .i q]) 54)], (5 : Nat) = 5, True, ([(4, .row 1 26 (((m64 ts)) ++ ([.u (ix zs i1)]))), (3, .cells (mm W xs1 ys1 ++ [.i s, .i b1, .i l, .i p, .i q]) 54), (1, .cells [.i 0, .nils, .nils, .i 0, .i 0, .i 0, .i 0, .i 0] 54), (0, .cells (mm W xs1 ys1 ++ [.i s, .i b1, .i l, .i p, .i q]) 54)] : Mem) = [(4, .row 1 26 (((m64 ts)) ++ ([.u (ix zs i1)]))), (3, .cells (mm W xs1 ys1 ++ [.i s, .i b1, .i l, .i p, .i q]) 54), (1, .cells [.i 0, .nils, .nils, .i 0, .i 0, .i 0, .i 0, .i 0] 54), (0, .cells (mm W xs1 ys1 ++ [.i s, .i b1, .i l, .i p, .i q]) 54)], (5 : Nat) = 5, True] ⟨trivial, rfl, trivial, trivial, trivial, trivial, ⟨(by intro y hy; simp at hy; first | (subst hy; rfl) | (rcases hy with rfl | rfl <;> rfl)), (fun h => by cases h), by first | omega | (simp only [len_st]; omega) | (simp; done) | (simp; omega) | (simp [len_st, len_stx, len_sty, len_zx, len_zy]; omega), by first | omega | (simp only [len_st]; omega) | (simp; done) | (simp; omega) | (simp [len_st, len_stx, len_sty, len_zx, len_zy]; omega)⟩, rfl, rfl, trivial, rfl, rfl, trivial, trivial⟩ ?_
      refine sen ?_
      refine ib ?_
      refine an ?_
      refine reg ?_
      refine setr 4 (z := 1) (E := 26) (L := (((m64 ts)) ++ ([.u (ix zs i1)]))) (L' := (m64 (ts ++ [(ix zs i1)]))) (by kernel_rfl) app_one ?_
      refine rk [(0, .i (i1 + 1))] 2 0 ⟨[(15, .i (i1 + 1)), (7, .own 4), (14, .i ((zs).length : Int)), (13, .sl false 1 (m64 zs)), (6, .i 0), (5, .nils), (4, .p 1), (2, .p 0)], [(4, .row 1 26 (m64 (ts ++ [(ix zs i1)]))), (1, .cells [.i 0, .nils, .nils, .i 0, .i 0, .i 0, .i 0, .i 0] 54), (0, .cells (mm W xs1 ys1 ++ [.i s, .i b1, .i l, .i p, .i q]) 54)], 5⟩ [IntKind.i64.wrap (i1 + 1) = (i1 + 1)] ⟨i64_eq (by omega) (by omega), trivial⟩ ?_
      refine en ?_
      exact ag ⟨(xs1, ys1, b1, (ts ++ [ (ix zs i1) ]), (i1 + 1)), ⟨(show 0 ≤ (i1 + 1) by omega), (show (i1 + 1) ≤ (zs.length : Int) by omega), (show ((ts ++ [ (ix zs i1) ]).length : Int) = (i1 + 1) by first | omega | assumption | rfl | (simp; omega)), (show (xs1.length : Int) = W by omega), (show (ys1.length : Int) = W by omega), (show b ≤ b1 ∧ b1 ≤ l by omega), (show U64s xs1 by assumption), (show U64s ys1 by assumption), (show U64s (ts ++ [ (ix zs i1) ]) by first | exact U64s.nil | exact U64s.append ‹_› (U64s.cons (by omega) U64s.nil)), (show TwAll W xs1 ys1 s zs (ts ++ [ (ix zs i1) ]) by first | exact TwAll.nil | exact twa_0 (k := i1) ‹_› (by omega) (by omega) | exact twa_over (k := i1) ‹_› (by omega) (by omega) (by omega) (by omega) | exact twa_had (k := i1) ‹_› (by omega) (by omega) (by omega) (by omega) (by omega) (by omega) | exact twa_new (k := i1) ‹_› (by omega) (by omega) (by omega) (by omega) (by omega) (by omega) (by omega) (by omega) (by omega) (by omega) (by omega) (by omega))⟩⟩ (le_of [(2, 4)] [((i1 + 1) : Int) = (i1 + 1), (((zs).length : Int) : Int) = ((zs).length : Int), (false = true → false = true), ((m64 zs) : List SV) = (m64 zs), (0 : Int) = 0, ((m64 (ts ++ [(ix zs i1)])) : List SV) = (m64 (ts ++ [ (ix zs i1) ])), (0 : Int) = 0, (0 : Int) = 0, (0 : Int) = 0, (0 : Int) = 0, (0 : Int) = 0, (0 : Int) = 0, (W : Int) = W, (false = true → false = true), ((m64 xs1) : List SV) = (m64 xs1), (false = true → false = true), ((m64 ys1) : List SV) = (m64 ys1), (s : Int) = s, (b1 : Int) = b1, (l : Int) = l, (p : Int) = p, (q : Int) = q] (by kernel_rfl) ⟨rfl, rfl, id, rfl, rfl, (by first | omega | assumption | rfl | (simp; omega)), rfl, rfl, rfl, rfl, rfl, rfl, rfl, id, rfl, id, rfl, rfl, rfl, rfl, rfl, rfl, trivial⟩) (by show ((zs.length : Int) - (i1 + 1)).toNat < ((zs.length : Int) - i1).toNat; omega)
     ·
      by_cases h16 : ((ldw xs1 ys1 ((ix zs i1) + 1)) ≠ 0) ∧ (¬ (1 ≤ (ldw xs1 ys1 ((ix zs i1) + 1)) / 4294967296 ∧ (ldw xs1 ys1 ((ix zs i1) + 1)) / 4294967296 ≤ 2 ∧ (ldw xs1 ys1 ((ix zs i1) + 1)) / 4294967296 - 1 = s))
      ·
       refine pc (tto_5 W xs1 ys1 s b1 l p q (ix zs i1) ‹_› ‹_› ‹_› ‹_› ‹_› (by omega) ‹_› (by omega) ‹_› (by omega) (by omega) (by omega) ‹_› (by omega) (by omega)) ?_
       obtain ⟨h17, h18, h19⟩ := oErr_ok W xs1 ys1 (ix zs i1) (by omega)
       have h20 : 1 ≤ ((ix zs i1) + 1) / 4294967296 ∧ ((ix zs i1) + 1) / 4294967296 ≤ 2 ∧ ((ix zs i1) + 1) % 4294967296 < W := by omega
       have h21 : 0 ≤ (ldw xs1 ys1 ((ix zs i1) + 1)) ∧ (ldw xs1 ys1 ((ix zs i1) + 1)) ≤ 18446744073709551615 := ldw_ok xs1 ys1 ((ix zs i1) + 1) ‹_› ‹_›
       refine rk [] 8 3 ⟨[(12, .i 10), (11, .u 0), (10, .p 3), (7, .own 2), (15, .i i1), (14, .i ((zs).length : Int)), (13, .sl false 1 (m64 zs)), (6, .i 0), (5, .nils), (4, .p 1), (2, .p 0)], [(3, .cells (mm W xs1 ys1 ++ [.i s, .i b1, .i l, .i p, .i q]) 54), (2, .row 1 26 (m64 ts)), (1, .cells [.i 0, .nils, .nils, .i 0, .i 0, .i 0, .i 0, .i 0] 54), (0, .cells (mm W xs1 ys1 ++ [.i s, .i b1, .i l, .i p, .i q]) 54)], 4⟩ [True] ⟨trivial, trivial⟩ ?_
       refine en ?_
       refine an ?_
       refine xw_seq ?_
       refine rg [(1, .t)] 2 ⟨[(27, .t), (12, .i 10), (11, .u 0), (10, .p 3), (7, .own 2), (15, .i i1), (14, .i ((zs).length : Int)), (13, .sl false 1 (m64 zs)), (6, .i 0), (5, .nils), (4, .p 1), (2, .p 0)], [(3, .cells (mm W xs1 ys1 ++ [.i s, .i b1, .i l, .i p, .i q]) 54), (2, .row 1 26 (m64 ts)), (1, .cells [.i 0, .nils, .nils, .i 0, .i 0, .i 0, .i 0, .i 0] 54), (0, .cells (mm W xs1 ys1 ++ [.i s, .i b1, .i l, .i p, .i q]) 54)], 4⟩ [(10 != 0) = true] ⟨bne_iff_ne.2 (by omega), trivial⟩ ?_
       refine ct ?_
       refine rg [] 5 ⟨[(6, .i 10), (5, .nils), (11, .u 0), (10, .p 3), (7, .own 2), (15, .i i1), (14, .i ((zs).length : Int)), (13, .sl false 1 (m64 zs)), (4, .p 1), (2, .p 0)], [(3, .cells (mm W xs1 ys1 ++ [.i s, .i b1, .i l, .i p, .i q]) 54), (2, .row 1 26 (m64 ts)), (1, .cells (mm W xs1 ys1 ++ [.i s, .i b1, .i l, .i p, .i q]) 54), (0, .cells (mm W xs1 ys1 ++ [.i s, .i b1, .i l, .i p, .i q]) 54)], 4⟩ [True, True] ⟨trivial, trivial, trivial⟩ ?_
       refine xw_ret ?_
       refine an_ret ?_
       refine ib_ret ?_
       refine an_ret ?_
       refine ag_ret ?_
       refine ib_ret ?_
       refine an_ret ?_
       exact bs (.tup [.agg (mm W xs1 ys1 ++ [.i s, .i b1, .i l, .i p, .i q]), .nils, .i 10]) (Or.inr <| ⟨xs1, ys1, b1, 10, (by omega), (by omega), (by first | rfl | omega | assumption), (by first | rfl | omega | assumption), (by omega), (by omega), (by omega), rfl⟩)
      ·
       by_cases h17 : ((ldw xs1 ys1 ((ix zs i1) + 1)) ≠ 0) ∧ (1 ≤ (ldw xs1 ys1 ((ix zs i1) + 1)) / 4294967296 ∧ (ldw xs1 ys1 ((ix zs i1) + 1)) / 4294967296 ≤ 2 ∧ (ldw xs1 ys1 ((ix zs i1) + 1)) / 4294967296 - 1 = s)
       ·
        refine pc (tto_6 W xs1 ys1 s b1 l p q (ix zs i1) ‹_› ‹_› ‹_› ‹_› ‹_› (by omega) ‹_› (by omega) ‹_› (by omega) (by omega) (by omega) ‹_› (by omega) (by omega)) ?_
        obtain ⟨h18, h19, h20⟩ := oErr_ok W xs1 ys1 (ix zs i1) (by omega)
        have h21 : 1 ≤ ((ix zs i1) + 1) / 4294967296 ∧ ((ix zs i1) + 1) / 4294967296 ≤ 2 ∧ ((ix zs i1) + 1) % 4294967296 < W := by omega
        have h22 : 0 ≤ (ldw xs1 ys1 ((ix zs i1) + 1)) ∧ (ldw xs1 ys1 ((ix zs i1) + 1)) ≤ 18446744073709551615 := ldw_ok xs1 ys1 ((ix zs i1) + 1) ‹_› ‹_›
        refine rk [] 8 3 ⟨[(12, .i 0), (11, .u (ldw xs1 ys1 ((ix zs i1) + 1))), (10, .p 3), (7, .own 2), (15, .i i1), (14, .i ((zs).length : Int)), (13, .sl false 1 (m64 zs)), (6, .i 0), (5, .nils), (4, .p 1), (2, .p 0)], [(3, .cells (mm W xs1 ys1 ++ [.i s, .i b1, .i l, .i p, .i q]) 54), (2, .row 1 26 (m64 ts)), (1, .cells [.i 0, .nils, .nils, .i 0, .i 0, .i 0, .i 0, .i 0] 54), (0, .cells (mm W xs1 ys1 ++ [.i s, .i b1, .i l, .i p, .i q]) 54)], 4⟩ [True] ⟨trivial, trivial⟩ ?_
        refine en ?_
        refine an ?_
        refine xw_seq ?_
        refine rg [(1, .f)] 2 ⟨[(27, .f), (12, .i 0), (11, .u (ldw xs1 ys1 ((ix zs i1) + 1))), (10, .p 3), (7, .own 2), (15, .i i1), (14, .i ((zs).length : Int)), (13, .sl false 1 (m64 zs)), (6, .i 0), (5, .nils), (4, .p 1), (2, .p 0)], [(3, .cells (mm W xs1 ys1 ++ [.i s, .i b1, .i l, .i p, .i q]) 54), (2, .row 1 26 (m64 ts)), (1, .cells [.i 0, .nils, .nils, .i 0, .i 0, .i 0, .i 0, .i 0] 54), (0, .cells (mm W xs1 ys1 ++ [.i s, .i b1, .i l, .i p, .i q]) 54)], 4⟩ [(0 != 0) = false] ⟨bne_eq_false_iff_eq.2 (by omega), trivial⟩ ?_
        refine cf ?_
        refine xw_skip ?_
        refine an ?_
        refine sreg hmix [([(3, .cells (mm W xs1 ys1 ++ [.i s, .i b1, .i l, .i p, .i q]) 54), (2, .row 1 26 (m64 ts)), (1, .cells [.i 0, .nils, .nils, .i 0, .i 0, .i 0, .i 0, .i 0] 54), (0, .cells (mm W xs1 ys1 ++ [.i s, .i b1, .i l, .i p, .i q]) 54)], 4), ([(4, .row 1 26 (((m64 ts)) ++ ([.u (ldw xs1 ys1 ((ix zs i1) + 1))]))), (3, .cells (mm W xs1 ys1 ++ [.i s, .i b1, .i l, .i p, .i q]) 54), (1, .cells [.i 0, .nils, .nils, .i 0, .i 0, .i 0, .i 0, .i 0] 54), (0, .cells (mm W xs1 ys1 ++ [.i s, .i b1, .i l, .i p, .i q]) 54)], 5), ([(4, .row 1 26 (((m64 ts)) ++ ([.u (ldw xs1 ys1 ((ix zs i1) + 1))]))), (3, .cells (mm W xs1 ys1 ++ [.i s, .i b1, .i l, .i p, .i q]) 54), (1, .cells [.i 0, .nils, .nils, .i 0, .i 0, .i 0, .i 0, .i 0] 54), (0, .cells (mm W xs1 ys1 ++ [.i s, .i b1, .i l, .i p, .i q]) 54)], 5)] [4, 5] [(3, [2]), (4, [1, 2, 3]), (5, [0, 1, 2, 3, 4]), (6, [0, 1, 2, 3, 4, 5])] rfl (by kernel_rfl) (by kernel_rfl) (by kernel_rfl) (by kernel_rfl) ?_
        refine sr [(3, .t)] 7 0 [(7, .own 4), (34, .own 4), (33, .sl false 1 [.u (ldw xs1 ys1 ((ix zs i1) + 1))]), (32, .u (ldw xs1 ys1 ((ix zs i1) + 1))), (31, .own 2), (30, .agg (mm W xs1 ys1 ++ [.i s, .i b1, .i l, .i p, .i q])), (27, .f), (12, .i 0), (11, .u (ldw xs1 ys1 ((ix zs i1) + 1))), (10, .p 3), (7, .own 2), (15, .i i1), (14, .i ((zs).length : Int)), (13, .sl false 1 (m64 zs)), (6, .i 0), (5, .nils), (4, .p 1), (2, .p 0)] [True, (SV.agg (mm W xs1 ys1 ++ [.i s, .i b1, .i l, .i p, .i q])) = SV.agg (mm W xs1 ys1 ++ [.i s, .i b1, .i l, .i p, .i q]), True, True, True, True, (∀ y ∈ ([.u (ldw xs1 ys1 ((ix zs i1) + 1))] : List SV), ElemOk y) ∧ (false = true → 1 ≤ ([.u (ldw xs1 ys1 ((ix zs i1) + 1))] : List SV).length ∧ ∀ x ∈ ((m64 ts) : List SV), ElemOk x) ∧ (((m64 ts) : List SV).length + ([.u (ldw xs1 ys1 ((ix zs i1) + 1))] : List SV).length) * 8 ≤ 140737488355328 ∧ ((m64 ts) : List SV).length + ([.u (ldw xs1 ys1 ((ix zs i1) + 1))] : List SV).length ≤ 4611686018427387904, ([(4, .row 1 26 (((m64 ts)) ++ ([.u (ldw xs1 ys1 ((ix zs i1) + 1))]))), (3, .cells (mm W xs1 ys1 ++ [.i s, .i b1, .i l, .i p, .i q]) 54), (1, .cells [.i 0, .nils, .nils, .i 0, .i 0, .i 0, .i 0, .i 0] 54), (0, .cells (mm W xs1 ys1 ++ [.i s, .i b1, .i l, .i p, .i q]) 54)] : Mem) = [(4, .row 1 26 (((m64 ts)) ++ ([.u (ldw xs1 ys1 ((ix zs i1) + 1))]))), (3, .cells (mm W xs1 ys1 ++ [.i s, .i b1, .i l, .i p, .i q]) 54), (1, .cells [.i 0, .nils, .nils, .i 0, .i 0, .i 0, .i 0, .i 0] 54), (0, .cells (mm W xs1 ys1 ++ [.i s, .i b1, .i l, .i p, .i q]) 54)], (5 : Nat) = 5, True, ([(4, .row 1 26 (((m64 ts)) ++ ([.u (ldw xs1 ys1 ((ix zs i1) + 1))]))), (3, .cells (mm W xs1 ys1 ++ [.i s, .i b1, .i l, .i p, .i q]) 54), (1, .cells [.i 0, .nils, .nils, .i 0, .i 0, .i 0, .i 0, .i 0] 54), (0, .cells (mm W xs1 ys1 ++ [.i s, .i b1, .i l, .i p, .i q]) 54)] : Mem) = [(4, .row 1 26 (((m64 ts)) ++ ([.u (ldw xs1 ys1 ((ix zs i1) + 1))]))), (3, .cells (mm W xs1 ys1 ++ [.i s, .i b1, .i l, .i p, .i q]) 54), (1, .cells [.i 0, .nils, .nils, .i 0, .i 0, .i 0, .i 0, .i 0] 54), (0, .cells (mm W xs1 ys1 ++ [.i s, .i b1, .i l, .i p, .i q]) 54)], (5 : Nat) = 5, True] ⟨trivial, rfl, trivial, trivial, trivial, trivial, ⟨(by intro y hy; simp at hy; first | (subst hy; rfl) | (rcases hy with rfl | rfl <;> rfl)), (fun h => by cases h), by first | omega | (simp only [len_st]; omega) | (simp; done) | (simp; omega) | (simp [len_st, len_stx, len_sty, len_zx, len_zy]; omega), by first | omega | (simp only [len_st]; omega) | (simp; done) | (simp; omega) | (simp [len_st, len_stx, len_sty, len_zx, len_zy]; omega)⟩, rfl, rfl, trivial, rfl, rfl, trivial, trivial⟩ ?_
        refine sen ?_
        refine ib ?_
        refine an ?_
        refine reg ?_
        refine setr 4 (z := 1) (E := 26) (L := (((m64 ts)) ++ ([.u (ldw xs1 ys1 ((ix zs i1) + 1))]))) (L' := (m64 (ts ++ [(ldw xs1 ys1 ((ix zs i1) + 1))]))) (by kernel_rfl) app_one ?_
        refine rk [(0, .i (i1 + 1))] 2 0 ⟨[(15, .i (i1 + 1)), (7, .own 4), (14, .i ((zs).length : Int)), (13, .sl false 1 (m64 zs)), (6, .i 0), (5, .nils), (4, .p 1), (2, .p 0)], [(4, .row 1 26 (m64 (ts ++ [(ldw xs1 ys1 ((ix zs i1) + 1))]))), (1, .cells [.i 0, .nils, .nils, .i 0, .i 0, .i 0, .i 0, .i 0] 54), (0, .cells (mm W xs1 ys1 ++ [.i s, .i b1, .i l, .i p, .i q]) 54)], 5⟩ [IntKind.i64.wrap (i1 + 1) = (i1 + 1)] ⟨i64_eq (by omega) (by omega), trivial⟩ ?_
        refine en ?_
        exact ag ⟨(xs1, ys1, b1, (ts ++ [ (ldw xs1 ys1 ((ix zs i1) + 1)) ]), (i1 + 1)), ⟨(show 0 ≤ (i1 + 1) by omega), (show (i1 + 1) ≤ (zs.length : Int) by omega), (show ((ts ++ [ (ldw xs1 ys1 ((ix zs i1) + 1)) ]).length : Int) = (i1 + 1) by first | omega | assumption | rfl | (simp; omega)), (show (xs1.length : Int) = W by omega), (show (ys1.length : Int) = W by omega), (show b ≤ b1 ∧ b1 ≤ l by omega), (show U64s xs1 by assumption), (show U64s ys1 by assumption), (show U64s (ts ++ [ (ldw xs1 ys1 ((ix zs i1) + 1)) ]) by first | exact U64s.nil | exact U64s.append ‹_› (U64s.cons (by omega) U64s.nil)), (show TwAll W xs1 ys1 s zs (ts ++ [ (ldw xs1 ys1 ((ix zs i1) + 1)) ]) by first | exact TwAll.nil | exact twa_0 (k := i1) ‹_› (by omega) (by omega) | exact twa_over (k := i1) ‹_› (by omega) (by omega) (by omega) (by omega) | exact twa_had (k := i1) ‹_› (by omega) (by omega) (by omega) (by omega) (by omega) (by omega) | exact twa_new (k := i1) ‹_› (by omega) (by omega) (by omega) (by omega) (by omega) (by omega) (by omega) (by omega) (by omega) (by omega) (by omega) (by omega))⟩⟩ (le_of [(2, 4)] [((i1 + 1) : Int) = (i1 + 1), (((zs).length : Int) : Int) = ((zs).length : Int), (false = true → false = true), ((m64 zs) : List SV) = (m64 zs), (0 : Int) = 0, ((m64 (ts ++ [(ldw xs1 ys1 ((ix zs i1) + 1))])) : List SV) = (m64 (ts ++ [ (ldw xs1 ys1 ((ix zs i1) + 1)) ])), (0 : Int) = 0, (0 : Int) = 0, (0 : Int) = 0, (0 : Int) = 0, (0 : Int) = 0, (0 : Int) = 0, (W : Int) = W, (false = true → false = true), ((m64 xs1) : List SV) = (m64 xs1), (false = true → false = true), ((m64 ys1) : List SV) = (m64 ys1), (s : Int) = s, (b1 : Int) = b1, (l : Int) = l, (p : Int) = p, (q : Int) = q] (by kernel_rfl) ⟨rfl, rfl, id, rfl, rfl, (by first | omega | assumption | rfl | (simp; omega)), rfl, rfl, rfl, rfl, rfl, rfl, rfl, id, rfl, id, rfl, rfl, rfl, rfl, rfl, rfl, trivial⟩) (by show ((zs.length : Int) - (i1 + 1)).toNat < ((zs.length : Int) - i1).toNat; omega)
       ·
        by_cases h18 : l - b1 < (((ldw xs1 ys1 (ix zs i1) / 4294967296) % 16777216) + 2)
        ·
         refine pc (tto_7 W xs1 ys1 s b1 l p q (ix zs i1) ‹_› ‹_› ‹_› ‹_› ‹_› (by omega) ‹_› (by omega) ‹_› (by omega) (by omega) (by omega) ‹_› (by omega) ‹_›) ?_
         obtain ⟨h19, h20, h21⟩ := oErr_ok W xs1 ys1 (ix zs i1) (by omega)
         have h22 : 1 ≤ ((ix zs i1) + 1) / 4294967296 ∧ ((ix zs i1) + 1) / 4294967296 ≤ 2 ∧ ((ix zs i1) + 1) % 4294967296 < W := by omega
         have h23 : 0 ≤ (ldw xs1 ys1 ((ix zs i1) + 1)) ∧ (ldw xs1 ys1 ((ix zs i1) + 1)) ≤ 18446744073709551615 := ldw_ok xs1 ys1 ((ix zs i1) + 1) ‹_› ‹_›
         refine rk [] 8 3 ⟨[(12, .i 4), (11, .u 0), (10, .p 3), (7, .own 2), (15, .i i1), (14, .i ((zs).length : Int)), (13, .sl false 1 (m64 zs)), (6, .i 0), (5, .nils), (4, .p 1), (2, .p 0)], [(3, .cells (mm W xs1 ys1 ++ [.i s, .i b1, .i l, .i p, .i q]) 54), (2, .row 1 26 (m64 ts)), (1, .cells [.i 0, .nils, .nils, .i 0, .i 0, .i 0, .i 0, .i 0] 54), (0, .cells (mm W xs1 ys1 ++ [.i s, .i b1, .i l, .i p, .i q]) 54)], 4⟩ [True] ⟨trivial, trivial⟩ ?_
         refine en ?_
         refine an ?_
         refine xw_seq ?_
         refine rg [(1, .t)] 2 ⟨[(27, .t), (12, .i 4), (11, .u 0), (10, .p 3), (7, .own 2), (15, .i i1), (14, .i ((zs).length : Int)), (13, .sl false 1 (m64 zs)), (6, .i 0), (5, .nils), (4, .p 1), (2, .p 0)], [(3, .cells (mm W xs1 ys1 ++ [.i s, .i b1, .i l, .i p, .i q]) 54), (2, .row 1 26 (m64 ts)), (1, .cells [.i 0, .nils, .nils, .i 0, .i 0, .i 0, .i 0, .i 0] 54), (0, .cells (mm W xs1 ys1 ++ [.i s, .i b1, .i l, .i p, .i q]) 54)], 4⟩ [(4 != 0) = true] ⟨bne_iff_ne.2 (by omega), trivial⟩ ?_
         refine ct ?_
         refine rg [] 5 ⟨[(6, .i 4), (5, .nils), (11, .u 0), (10, .p 3), (7, .own 2), (15, .i i1), (14, .i ((zs).length : Int)), (13, .sl false 1 (m64 zs)), (4, .p 1), (2, .p 0)], [(3, .cells (mm W xs1 ys1 ++ [.i s, .i b1, .i l, .i p, .i q]) 54), (2, .row 1 26 (m64 ts)), (1, .cells (mm W xs1 ys1 ++ [.i s, .i b1, .i l, .i p, .i q]) 54), (0, .cells (mm W xs1 ys1 ++ [.i s, .i b1, .i l, .i p, .i q]) 54)], 4⟩ [True, True] ⟨trivial, trivial, trivial⟩ ?_
         refine xw_ret ?_
         refine an_ret ?_
         refine ib_ret ?_
         refine an_ret ?_
         refine ag_ret ?_
         refine ib_ret ?_
         refine an_ret ?_
         exact bs (.tup [.agg (mm W xs1 ys1 ++ [.i s, .i b1, .i l, .i p, .i q]), .nils, .i 4]) (Or.inr <| ⟨xs1, ys1, b1, 4, (by omega), (by omega), (by first | rfl | omega | assumption), (by first | rfl | omega | assumption), (by omega), (by omega), (by omega), rfl⟩)
        ·
         refine pc (tto_8 W xs1 ys1 s b1 l p q (ix zs i1) ‹_› ‹_› ‹_› ‹_› ‹_› (by omega) ‹_› (by omega) ‹_› (by omega) (by omega) (by omega) ‹_› (by omega) (by omega)) ?_
         obtain ⟨h19, h20, h21⟩ := oErr_ok W xs1 ys1 (ix zs i1) (by omega)
         have h22 : 1 ≤ ((ix zs i1) + 1) / 4294967296 ∧ ((ix zs i1) + 1) / 4294967296 ≤ 2 ∧ ((ix zs i1) + 1) % 4294967296 < W := by omega
         have h23 : 0 ≤ (ldw xs1 ys1 ((ix zs i1) + 1)) ∧ (ldw xs1 ys1 ((ix zs i1) + 1)) ≤ 18446744073709551615 := ldw_ok xs1 ys1 ((ix zs i1) + 1) ‹_› ‹_›
         obtain ⟨h24, h25, h26, h27⟩ := tw_ok W xs1 ys1 (ix zs i1) ((s + 1) * 4294967296 + b1) (((ldw xs1 ys1 (ix zs i1) / 4294967296) % 16777216) + 2) ‹_› ‹_› ‹_› ‹_› (by omega) (by omega) (by omega) (by omega)
         refine rk [] 8 3 ⟨[(12, .i 0), (11, .u ((s + 1) * 4294967296 + b1)), (10, .p 3), (7, .own 2), (15, .i i1), (14, .i ((zs).length : Int)), (13, .sl false 1 (m64 zs)), (6, .i 0), (5, .nils), (4, .p 1), (2, .p 0)], [(3, .cells (mm W (tX xs1 ys1 (ix zs i1) ((s + 1) * 4294967296 + b1) ((hL xs1 ys1 (ix zs i1)) + 2)) (tY xs1 ys1 (ix zs i1) ((s + 1) * 4294967296 + b1) ((hL xs1 ys1 (ix zs i1)) + 2)) ++ [.i s, .i (b1 + ((hL xs1 ys1 (ix zs i1)) + 2)), .i l, .i p, .i q]) 54), (2, .row 1 26 (m64 ts)), (1, .cells [.i 0, .nils, .nils, .i 0, .i 0, .i 0, .i 0, .i 0] 54), (0, .cells (mm W xs1 ys1 ++ [.i s, .i b1, .i l, .i p, .i q]) 54)], 4⟩ [True] ⟨trivial, trivial⟩ ?_
         refine en ?_
         refine an ?_
         refine xw_seq ?_
         refine rg [(1, .f)] 2 ⟨[(27, .f), (12, .i 0), (11, .u ((s + 1) * 4294967296 + b1)), (10, .p 3), (7, .own 2), (15, .i i1), (14, .i ((zs).length : Int)), (13, .sl false 1 (m64 zs)), (6, .i 0), (5, .nils), (4, .p 1), (2, .p 0)], [(3, .cells (mm W (tX xs1 ys1 (ix zs i1) ((s + 1) * 4294967296 + b1) ((hL xs1 ys1 (ix zs i1)) + 2)) (tY xs1 ys1 (ix zs i1) ((s + 1) * 4294967296 + b1) ((hL xs1 ys1 (ix zs i1)) + 2)) ++ [.i s, .i (b1 + ((hL xs1 ys1 (ix zs i1)) + 2)), .i l, .i p, .i q]) 54), (2, .row 1 26 (m64 ts)), (1, .cells [.i 0, .nils, .nils, .i 0, .i 0, .i 0, .i 0, .i 0] 54), (0, .cells (mm W xs1 ys1 ++ [.i s, .i b1, .i l, .i p, .i q]) 54)], 4⟩ [(0 != 0) = false] ⟨bne_eq_false_iff_eq.2 (by omega), trivial⟩ ?_
         refine cf ?_
         refine xw_skip ?_
         refine an ?_
         refine sreg hmix [([(3, .cells (mm W (tX xs1 ys1 (ix zs i1) ((s + 1) * 4294967296 + b1) (((ldw xs1 ys1 (ix zs i1) / 4294967296) % 16777216) + 2)) (tY xs1 ys1 (ix zs i1) ((s + 1) * 4294967296 + b1) (((ldw xs1 ys1 (ix zs i1) / 4294967296) % 16777216) + 2)) ++ [.i s, .i (b1 + (((ldw xs1 ys1 (ix zs i1) / 4294967296) % 16777216) + 2)), .i l, .i p, .i q]) 54), (2, .row 1 26 (m64 ts)), (1, .cells [.i 0, .nils, .nils, .i 0, .i 0, .i 0, .i 0, .i 0] 54), (0, .cells (mm W xs1 ys1 ++ [.i s, .i b1, .i l, .i p, .i q]) 54)], 4), ([(4, .row 1 26 (((m64 ts)) ++ ([.u ((s + 1) * 4294967296 + b1)]))), (3, .cells (mm W (tX xs1 ys1 (ix zs i1) ((s + 1) * 4294967296 + b1) (((ldw xs1 ys1 (ix zs i1) / 4294967296) % 16777216) + 2)) (tY xs1 ys1 (ix zs i1) ((s + 1) * 4294967296 + b1) (((ldw xs1 ys1 (ix zs i1) / 4294967296) % 16777216) + 2)) ++ [.i s, .i (b1 + (((ldw xs1 ys1 (ix zs i1) / 4294967296) % 16777216) + 2)), .i l, .i p, .i q]) 54), (1, .cells [.i 0, .nils, .nils, .i 0, .i 0, .i 0, .i 0, .i 0] 54), (0, .cells (mm W xs1 ys1 ++ [.i s, .i b1, .i l, .i p, .i q]) 54)], 5), ([(4, .row 1 26 (((m64 ts)) ++ ([.u ((s + 1) * 4294967296 + b1)]))), (3, .cells (mm W (tX xs1 ys1 (ix zs i1) ((s + 1) * 4294967296 + b1) (((ldw xs1 ys1 (ix zs i1) / 4294967296) % 16777216) + 2)) (tY xs1 ys1 (ix zs i1) ((s + 1) * 4294967296 + b1) (((ldw xs1 ys1 (ix zs i1) / 4294967296) % 16777216) + 2)) ++ [.i s, .i (b1 + (((ldw xs1 ys1 (ix zs i1) / 4294967296) % 16777216) + 2)), .i l, .i p, .i q]) 54), (1, .cells [.i 0, .nils, .nils, .i 0, .i 0, .i 0, .i 0, .i 0] 54), (0, .cells (mm W (tX xs1 ys1 (ix zs i1) ((s + 1) * 4294967296 + b1) (((ldw xs1 ys1 (ix zs i1) / 4294967296) % 16777216) + 2)) (tY xs1 ys1 (ix zs i1) ((s + 1) * 4294967296 + b1) (((ldw xs1 ys1 (ix zs i1) / 4294967296) % 16777216) + 2)) ++ [.i s, .i (b1 + (((ldw xs1 ys1 (ix zs i1) / 4294967296) % 16777216) + 2)), .i l, .i p, .i q]) 54)], 5)] [4, 5] [(3, [2]), (4, [1, 2, 3]), (5, [0, 1, 2, 3, 4]), (6, [0, 1, 2, 3, 4, 5])] rfl (by kernel_rfl) (by kernel_rfl) (by kernel_rfl) (by kernel_rfl) ?_
         refine sr [(3, .t)] 7 0 [(7, .own 4), (34, .own 4), (33, .sl false 1 [.u ((s + 1) * 4294967296 + b1)]), (32, .u ((s + 1) * 4294967296 + b1)), (31, .own 2), (30, .agg (mm W (tX xs1 ys1 (ix zs i1) ((s + 1) * 4294967296 + b1) (((ldw xs1 ys1 (ix zs i1) / 4294967296) % 16777216) + 2)) (tY xs1 ys1 (ix zs i1) ((s + 1) * 4294967296 + b1) (((ldw xs1 ys1 (ix zs i1) / 4294967296) % 16777216) + 2)) ++ [.i s, .i (b1 + (((ldw xs1 ys1 (ix zs i1) / 4294967296) % 16777216) + 2)), .i l, .i p, .i q])), (27, .f), (12, .i 0), (11, .u ((s + 1) * 4294967296 + b1)), (10, .p 3), (7, .own 2), (15, .i i1), (14, .i ((zs).length : Int)), (13, .sl false 1 (m64 zs)), (6, .i 0), (5, .nils), (4, .p 1), (2, .p 0)] [True, (SV.agg (mm W (tX xs1 ys1 (ix zs i1) ((s + 1) * 4294967296 + b1) (((ldw xs1 ys1 (ix zs i1) / 4294967296) % 16777216) + 2)) (tY xs1 ys1 (ix zs i1) ((s + 1) * 4294967296 + b1) (((ldw xs1 ys1 (ix zs i1) / 4294967296) % 16777216) + 2)) ++ [.i s, .i (b1 + (((ldw xs1 ys1 (ix zs i1) / 4294967296) % 16777216) + 2)), .i l, .i p, .i q])) = SV.agg (mm W (tX xs1 ys1 (ix zs i1) ((s + 1) * 4294967296 + b1) (((ldw xs1 ys1 (ix zs i1) / 4294967296) % 16777216) + 2)) (tY xs1 ys1 (ix zs i1) ((s + 1) * 4294967296 + b1) (((ldw xs1 ys1 (ix zs i1) / 4294967296) % 16777216) + 2)) ++ [.i s, .i (b1 + (((ldw xs1 ys1 (ix zs i1) / 4294967296) % 16777216) + 2)), .i l, .i p, .i q]), True, True, True, True, (∀ y ∈ ([.u ((s + 1) * 4294967296 + b1)] : List SV), ElemOk y) ∧ (false = true → 1 ≤ ([.u ((s + 1) * 4294967296 + b1)] : List SV).length ∧ ∀ x ∈ ((m64 ts) : List SV), ElemOk x) ∧ (((m64 ts) : List SV).length + ([.u ((s + 1) * 4294967296 + b1)] : List SV).length) * 8 ≤ 140737488355328 ∧ ((m64 ts) : List SV).length + ([.u ((s + 1) * 4294967296 + b1)] : List SV).length ≤ 4611686018427387904, ([(4, .row 1 26 (((m64 ts)) ++ ([.u ((s + 1) * 4294967296 + b1)]))), (3, .cells (mm W (tX xs1 ys1 (ix zs i1) ((s + 1) * 4294967296 + b1) (((ldw xs1 ys1 (ix zs i1) / 4294967296) % 16777216) + 2)) (tY xs1 ys1 (ix zs i1) ((s + 1) * 4294967296 + b1) (((ldw xs1 ys1 (ix zs i1) / 4294967296) % 16777216) + 2)) ++ [.i s, .i (b1 + (((ldw xs1 ys1 (ix zs i1) / 4294967296) % 16777216) + 2)), .i l, .i p, .i q]) 54), (1, .cells [.i 0, .nils, .nils, .i 0, .i 0, .i 0, .i 0, .i 0] 54), (0, .cells (mm W xs1 ys1 ++ [.i s, .i b1, .i l, .i p, .i q]) 54)] : Mem) = [(4, .row 1 26 (((m64 ts)) ++ ([.u ((s + 1) * 4294967296 + b1)]))), (3, .cells (mm W (tX xs1 ys1 (ix zs i1) ((s + 1) * 4294967296 + b1) (((ldw xs1 ys1 (ix zs i1) / 4294967296) % 16777216) + 2)) (tY xs1 ys1 (ix zs i1) ((s + 1) * 4294967296 + b1) (((ldw xs1 ys1 (ix zs i1) / 4294967296) % 16777216) + 2)) ++ [.i s, .i (b1 + (((ldw xs1 ys1 (ix zs i1) / 4294967296) % 16777216) + 2)), .i l, .i p, .i q]) 54), (1, .cells [.i 0, .nils, .nils, .i 0, .i 0, .i 0, .i 0, .i 0] 54), (0, .cells (mm W xs1 ys1 ++ [.i s, .i b1, .i l, .i p, .i q]) 54)], (5 : Nat) = 5, True, ([(4, .row 1 26 (((m64 ts)) ++ ([.u ((s + 1) * 4294967296 + b1)]))), (3, .cells (mm W (tX xs1 ys1 (ix zs i1) ((s + 1) * 4294967296 + b1) (((ldw xs1 ys1 (ix zs i1) / 4294967296) % 16777216) + 2)) (tY xs1 ys1 (ix zs i1) ((s + 1) * 4294967296 + b1) (((ldw xs1 ys1 (ix zs i1) / 4294967296) % 16777216) + 2)) ++ [.i s, .i (b1 + (((ldw xs1 ys1 (ix zs i1) / 4294967296) % 16777216) + 2)), .i l, .i p, .i q]) 54), (1, .cells [.i 0, .nils, .nils, .i 0, .i 0, .i 0, .i 0, .i 0] 54), (0, .cells (mm W (tX xs1 ys1 (ix zs i1) ((s + 1) * 4294967296 + b1) (((ldw xs1 ys1 (ix zs i1) / 4294967296) % 16777216) + 2)) (tY xs1 ys1 (ix zs i1) ((s + 1) * 4294967296 + b1) (((ldw xs1 ys1 (ix zs i1) / 4294967296) % 16777216) + 2)) ++ [.i s, .i (b1 + (((ldw xs1 ys1 (ix zs i1) / 4294967296) % 16777216) + 2)), .i l, .i p, .i q]) 54)] : Mem) = [(4, .row 1 26 (((m64 ts)) ++ ([.u ((s + 1) * 4294967296 + b1)]))), (3, .cells (mm W (tX xs1 ys1 (ix zs i1) ((s + 1) * 4294967296 + b1) (((ldw xs1 ys1 (ix zs i1) / 4294967296) % 16777216) + 2)) (tY xs1 ys1 (ix zs i1) ((s + 1) * 4294967296 + b1) (((ldw xs1 ys1 (ix zs i1) / 4294967296) % 16777216) + 2)) ++ [.i s, .i (b1 + (((ldw xs1 ys1 (ix zs i1) / 4294967296) % 16777216) + 2)), .i l, .i p, .i q]) 54), (1, .cells [.i 0, .nils, .nils, .i 0, .i 0, .i 0, .i 0, .i 0] 54), (0, .cells (mm W (tX xs1 ys1 (ix zs i1) ((s + 1) * 4294967296 + b1) (((ldw xs1 ys1 (ix zs i1) / 4294967296) % 16777216) + 2)) (tY xs1 ys1 (ix zs i1) ((s + 1) * 4294967296 + b1) (((ldw xs1 ys1 (ix zs i1) / 4294967296) % 16777216) + 2)) ++ [.i s, .i (b1 + (((ldw xs1 ys1 (ix zs i1) / 4294967296) % 16777216) + 2)), .i l, .i p, .i q]) 54)], (5 : Nat) = 5, True] ⟨trivial, rfl, trivial, trivial, trivial, trivial, ⟨(by intro y hy; simp at hy; first | (subst hy; rfl) | (rcases hy with rfl | rfl <;> rfl)), (fun h => by cases h), by first | omega | (simp only [len_st]; omega) | (simp; done) | (simp; omega) | (simp [len_st, len_stx, len_sty, len_zx, len_zy]; omega), by first | omega | (simp only [len_st]; omega) | (simp; done) | (simp; omega) | (simp [len_st, len_stx, len_sty, len_zx, len_zy]; omega)⟩, rfl, rfl, trivial, rfl, rfl, trivial, trivial⟩ ?_
         refine sen ?_
         refine ib ?_
         refine an ?_
         refine reg ?_
         refine setr 4 (z := 1) (E := 26) (L := (((m64 ts)) ++ ([.u ((s + 1) * 4294967296 + b1)]))) (L' := (m64 (ts ++ [((s + 1) * 4294967296 + b1)]))) (by kernel_rfl) app_one ?_
         refine rk [(0, .i (i1 + 1))] 2 0 ⟨[(15, .i (i1 + 1)), (7, .own 4), (14, .i ((zs).length : Int)), (13, .sl false 1 (m64 zs)), (6, .i 0), (5, .nils), (4, .p 1), (2, .p 0)], [(4, .row 1 26 (m64 (ts ++ [((s + 1) * 4294967296 + b1)]))), (1, .cells [.i 0, .nils, .nils, .i 0, .i 0, .i 0, .i 0, .i 0] 54), (0, .cells (mm W (tX xs1 ys1 (ix zs i1) ((s + 1) * 4294967296 + b1) ((hL xs1 ys1 (ix zs i1)) + 2)) (tY xs1 ys1 (ix zs i1) ((s + 1) * 4294967296 + b1) ((hL xs1 ys1 (ix zs i1)) + 2)) ++ [.i s, .i (b1 + ((hL xs1 ys1 (ix zs i1)) + 2)), .i l, .i p, .i q]) 54)], 5⟩ [IntKind.i64.wrap (i1 + 1) = (i1 + 1)] ⟨i64_eq (by omega) (by omega), trivial⟩ ?_
         refine en ?_
         exact ag ⟨((tX xs1 ys1 (ix zs i1) ((s + 1) * 4294967296 + b1) (((ldw xs1 ys1 (ix zs i1) / 4294967296) % 16777216) + 2)), (tY xs1 ys1 (ix zs i1) ((s + 1) * 4294967296 + b1) (((ldw xs1 ys1 (ix zs i1) / 4294967296) % 16777216) + 2)), (b1 + (((ldw xs1 ys1 (ix zs i1) / 4294967296) % 16777216) + 2)), (ts ++ [ ((s + 1) * 4294967296 + b1) ]), (i1 + 1)), ⟨(show 0 ≤ (i1 + 1) by omega), (show (i1 + 1) ≤ (zs.length : Int) by omega), (show ((ts ++ [ ((s + 1) * 4294967296 + b1) ]).length : Int) = (i1 + 1) by first | omega | assumption | rfl | (simp; omega)), (show ((tX xs1 ys1 (ix zs i1) ((s + 1) * 4294967296 + b1) (((ldw xs1 ys1 (ix zs i1) / 4294967296) % 16777216) + 2)).length : Int) = W by omega), (show ((tY xs1 ys1 (ix zs i1) ((s + 1) * 4294967296 + b1) (((ldw xs1 ys1 (ix zs i1) / 4294967296) % 16777216) + 2)).length : Int) = W by omega), (show b ≤ (b1 + (((ldw xs1 ys1 (ix zs i1) / 4294967296) % 16777216) + 2)) ∧ (b1 + (((ldw xs1 ys1 (ix zs i1) / 4294967296) % 16777216) + 2)) ≤ l by omega), (show U64s (tX xs1 ys1 (ix zs i1) ((s + 1) * 4294967296 + b1) (((ldw xs1 ys1 (ix zs i1) / 4294967296) % 16777216) + 2)) by assumption), (show U64s (tY xs1 ys1 (ix zs i1) ((s + 1) * 4294967296 + b1) (((ldw xs1 ys1 (ix zs i1) / 4294967296) % 16777216) + 2)) by assumption), (show U64s (ts ++ [ ((s + 1) * 4294967296 + b1) ]) by first | exact U64s.nil | exact U64s.append ‹_› (U64s.cons (by omega) U64s.nil)), (show TwAll W (tX xs1 ys1 (ix zs i1) ((s + 1) * 4294967296 + b1) (((ldw xs1 ys1 (ix zs i1) / 4294967296) % 16777216) + 2)) (tY xs1 ys1 (ix zs i1) ((s + 1) * 4294967296 + b1) (((ldw xs1 ys1 (ix zs i1) / 4294967296) % 16777216) + 2)) s zs (ts ++ [ ((s + 1) * 4294967296 + b1) ]) by first | exact TwAll.nil | exact twa_0 (k := i1) ‹_› (by omega) (by omega) | exact twa_over (k := i1) ‹_› (by omega) (by omega) (by omega) (by omega) | exact twa_had (k := i1) ‹_› (by omega) (by omega) (by omega) (by omega) (by omega) (by omega) | exact twa_new (k := i1) ‹_› (by omega) (by omega) (by omega) (by omega) (by omega) (by omega) (by omega) (by omega) (by omega) (by omega) (by omega) (by omega))⟩⟩ (le_of [(2, 4)] [((i1 + 1) : Int) = (i1 + 1), (((zs).length : Int) : Int) = ((zs).length : Int), (false = true → false = true), ((m64 zs) : List SV) = (m64 zs), (0 : Int) = 0, ((m64 (ts ++ [((s + 1) * 4294967296 + b1)])) : List SV) = (m64 (ts ++ [ ((s + 1) * 4294967296 + b1) ])), (0 : Int) = 0, (0 : Int) = 0, (0 : Int) = 0, (0 : Int) = 0, (0 : Int) = 0, (0 : Int) = 0, (W : Int) = W, (false = true → false = true), ((m64 (tX xs1 ys1 (ix zs i1) ((s + 1) * 4294967296 + b1) (((ldw xs1 ys1 (ix zs i1) / 4294967296) % 16777216) + 2))) : List SV) = (m64 (tX xs1 ys1 (ix zs i1) ((s + 1) * 4294967296 + b1) (((ldw xs1 ys1 (ix zs i1) / 4294967296) % 16777216) + 2))), (false = true → false = true), ((m64 (tY xs1 ys1 (ix zs i1) ((s + 1) * 4294967296 + b1) (((ldw xs1 ys1 (ix zs i1) / 4294967296) % 16777216) + 2))) : List SV) = (m64 (tY xs1 ys1 (ix zs i1) ((s + 1) * 4294967296 + b1) (((ldw xs1 ys1 (ix zs i1) / 4294967296) % 16777216) + 2))), (s : Int) = s, ((b1 + (((ldw xs1 ys1 (ix zs i1) / 4294967296) % 16777216) + 2)) : Int) = (b1 + (((ldw xs1 ys1 (ix zs i1) / 4294967296) % 16777216) + 2)), (l : Int) = l, (p : Int) = p, (q : Int) = q] (by kernel_rfl) ⟨rfl, rfl, id, rfl, rfl, (by first | omega | assumption | rfl | (simp; omega)), rfl, rfl, rfl, rfl, rfl, rfl, rfl, id, rfl, id, rfl, rfl, rfl, rfl, rfl, rfl, trivial⟩) (by show ((zs.length : Int) - (i1 + 1)).toNat < ((zs.length : Int) - i1).toNat; omega)
 ·
  replace h10 : ¬ (i1 < (zs.length : Int)) := of_decide_eq_false h10
  refine xw_exit ?_
  refine an_exit ?_
  refine ag_exit ?_
  refine ib_same ?_
  refine an ?_
  refine rg [] 5 ⟨[(6, .i 0), (5, .own 2), (4, .p 1)], [(2, .row 1 26 (m64 ts)), (1, .cells (mm W xs1 ys1 ++ [.i s, .i b1, .i l, .i p, .i q]) 54)], 3⟩ [True, True] ⟨trivial, trivial, trivial⟩ ?_
  refine xw_ret ?_
  exact bk_ret (.tup [.agg (mm W xs1 ys1 ++ [.i s, .i b1, .i l, .i p, .i q]), .own 2, .i 0]) (.tup [.agg (mm W xs1 ys1 ++ [.i s, .i b1, .i l, .i p, .i q]), .sl false 1 (m64 ts), .i 0]) (.tup [.agg (mm W xs1 ys1 ++ [.i s, .i b1, .i l, .i p, .i q]), .sl false 1 (m64 ts), .i 0]) (by kernel_rfl) (by kernel_rfl) (wkd [(W : Int) = W, (false = true → false = true), (m64 xs1) = (m64 xs1), (false = true → false = true), (m64 ys1) = (m64 ys1), (s : Int) = s, (b1 : Int) = b1, (l : Int) = l, (p : Int) = p, (q : Int) = q, (false = true → false = true), (m64 ts) = (m64 ts), (0 : Int) = 0] (by kernel_rfl) ⟨rfl, id, rfl, id, rfl, rfl, rfl, rfl, rfl, rfl, id, rfl, rfl, trivial⟩) (Or.inl <| ⟨xs1, ys1, b1, ts, (by omega), (by omega), (by first | rfl | omega | assumption), (by first | rfl | omega | assumption), (by omega), (by omega), (by first | rfl | omega | assumption), (by first | rfl | omega | assumption), rfl⟩)

theorem each1L (W : Int) (xs : List Int) (ys : List Int) (s : Int) (b : Int) (l : Int) (p : Int) (q : Int) (zs : List Int) (hp0 : 16 ≤ W ∧ W ≤ 4096) (hp1 : (xs.length : Int) = W) (hp2 : (ys.length : Int) = W) (hp3 : U64s xs) (hp4 : U64s ys) (hp5 : (s = 0 ∨ s = 1) ∧ 0 ≤ b ∧ b ≤ l ∧ l ≤ 4096) (hp6 : l = W) (hp7 : 0 ≤ p ∧ p ≤ q ∧ q ≤ b) (hp8 : U64s zs) (hp9 : (zs.length : Int) ≤ 4096) : Pub Try.prog 38 [.agg (mm W xs ys ++ [.int .i64 s, .int .i64 b, .int .i64 l, .int .i64 p, .int .i64 q]), .sl false 1 (m64 zs)] (fun rv => (∃ X1 : List Int, ∃ Y1 : List Int, ∃ B1 : Int, ∃ T1 : List Int, ((X1.length : Int) = W) ∧ ((Y1.length : Int) = W) ∧ (U64s X1) ∧ (U64s Y1) ∧ (b ≤ B1 ∧ B1 ≤ l) ∧ ((T1.length : Int) = (zs.length : Int)) ∧ (U64s T1) ∧ (TwAll W X1 Y1 s zs T1) ∧ rv = .tup [.agg (mm W X1 Y1 ++ [.int .i64 s, .int .i64 B1, .int .i64 l, .int .i64 p, .int .i64 q]), .sl false 1 (m64 T1), .int .i64 0]) ∨ (∃ X1 : List Int, ∃ Y1 : List Int, ∃ B1 : Int, ∃ E1 : Int, ((X1.length : Int) = W) ∧ ((Y1.length : Int) = W) ∧ (U64s X1) ∧ (U64s Y1) ∧ (b ≤ B1 ∧ B1 ≤ l) ∧ (E1 ≠ 0) ∧ (0 ≤ E1 ∧ E1 ≤ 100) ∧ rv = .tup [.agg (mm W X1 Y1 ++ [.int .i64 s, .int .i64 B1, .int .i64 l, .int .i64 p, .int .i64 q]), .nils, .int .i64 E1])) := by
 refine pub_of TT_ok Try.func38 rfl (by decide) (Nat.le_of_ble_eq_true (by kernel_rfl)) (by kernel_rfl) ?_
 refine rg [] 4 ⟨[(6, .i 0), (5, .nils), (4, .p 1), (2, .p 0), (1, .sl false 1 (m64 zs))], [(1, .cells [.i 0, .nils, .nils, .i 0, .i 0, .i 0, .i 0, .i 0] 54), (0, .cells (mm W xs ys ++ [.i s, .i b, .i l, .i p, .i q]) 54)], 2⟩ [] trivial ?_
 refine xw_seq ?_
 refine reg ?_
 refine rk [] 2 0 ⟨[(8, .sl false 1 (m64 zs)), (7, .agg (mm W xs ys ++ [.i s, .i b, .i l, .i p, .i q])), (6, .i 0), (5, .nils), (4, .p 1)], [(1, .cells [.i 0, .nils, .nils, .i 0, .i 0, .i 0, .i 0, .i 0] 54)], 2⟩ [True] ⟨trivial, trivial⟩ ?_
 refine pcall (args := [.agg (mm W xs ys ++ [.i s, .i b, .i l, .i p, .i q]), .sl false 1 (m64 zs)]) (args' := [.agg (mm W xs ys ++ [.i s, .i b, .i l, .i p, .i q]), .sl false 1 (m64 zs)]) (d := (some 9)) (by kernel_rfl) (each0L W xs ys s b l p q zs ‹_› ‹_› ‹_› ‹_› ‹_› ‹_› ‹_› ‹_› ‹_› ‹_›) [(W : Int) = W, (false = true → false = true), ((m64 xs) : List SV) = (m64 xs), (false = true → false = true), ((m64 ys) : List SV) = (m64 ys), (s : Int) = s, (b : Int) = b, (l : Int) = l, (p : Int) = p, (q : Int) = q, (false = true → false = true), ((m64 zs) : List SV) = (m64 zs)] (by kernel_rfl) ⟨rfl, id, rfl, id, rfl, rfl, rfl, rfl, rfl, rfl, id, rfl, trivial⟩ (by kernel_rfl) ?_
 rintro _ (⟨X10, Y11, B12, T13, h4, h5, h6, h7, h8, h9, h10, h11, rfl⟩ | ⟨X10, Y11, B12, E13, h4, h5, h6, h7, h8, h9, h10, rfl⟩)
 ·
  refine rk [] 6 3 ⟨[(6, .i 0), (5, .sl false 1 (m64 T13)), (4, .p 1)], [(1, .cells (mm W X10 Y11 ++ [.i s, .i B12, .i l, .i p, .i q]) 54)], 2⟩ [True] ⟨trivial, trivial⟩ ?_
  refine en ?_
  refine an ?_
  refine xw_ret ?_
  exact bs (.tup [.agg (mm W X10 Y11 ++ [.i s, .i B12, .i l, .i p, .i q]), .sl false 1 (m64 T13), .i 0]) (Or.inl <| ⟨X10, Y11, B12, T13, (by omega), (by omega), (by first | rfl | omega | assumption), (by first | rfl | omega | assumption), (by omega), (by omega), (by first | rfl | omega | assumption), (by first | rfl | omega | assumption), rfl⟩)
 ·
  refine rk [] 6 3 ⟨[(6, .i E13), (5, .nils), (4, .p 1)], [(1, .cells (mm W X10 Y11 ++ [.i s, .i B12, .i l, .i p, .i q]) 54)], 2⟩ [True] ⟨trivial, trivial⟩ ?_
  refine en ?_
  refine an ?_
  refine xw_ret ?_
  exact bs (.tup [.agg (mm W X10 Y11 ++ [.i s, .i B12, .i l, .i p, .i q]), .nils, .i E13]) (Or.inr <| ⟨X10, Y11, B12, E13, (by omega), (by omega), (by first | rfl | omega | assumption), (by first | rfl | omega | assumption), (by omega), (by omega), (by omega), rfl⟩)

end Go.Proofs.Ytcjcljbhjkedgaa.X
