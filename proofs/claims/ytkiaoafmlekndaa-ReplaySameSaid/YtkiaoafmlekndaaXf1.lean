/- Contracts of Go functions: what each returns, for every input that its premises name; no memory of the caller is touched. Printed by a program. -/
import Derived.Test.YtkiaoafmlekndaaXf0
namespace Go.Proofs.Ytkiaoafmlekndaa.X
open Go Go.RowKit
set_option linter.unusedVariables false      -- a premise may serve only to tell which way is taken
set_option linter.unusedSimpArgs false
theorem tover (W : Int) (xs : List Int) (ys : List Int) (s : Int) (b : Int) (l : Int) (p : Int) (q : Int) (a : Int) (hp0 : 16 ≤ W ∧ W ≤ 4096) (hp1 : (xs.length : Int) = W) (hp2 : (ys.length : Int) = W) (hp3 : U64s xs) (hp4 : U64s ys) (hp5 : (s = 0 ∨ s = 1) ∧ 0 ≤ b ∧ b ≤ l ∧ l ≤ 4096) (hp6 : l = W) (hp7 : 0 ≤ p ∧ p ≤ q ∧ q ≤ b) (hp8 : 0 ≤ a ∧ a ≤ 18446744073709551615) : Pub Try.prog 55 [.agg (mr W xs ys [.int .i64 s, .int .i64 b, .int .i64 l, .int .i64 p, .int .i64 q]), .int .u64 a] (fun rv => ((1 ≤ a / 4294967296 ∧ a / 4294967296 ≤ 2 ∧ a / 4294967296 - 1 = s) ∧ rv = .bool true) ∨ ((¬ (1 ≤ a / 4294967296 ∧ a / 4294967296 ≤ 2 ∧ a / 4294967296 - 1 = s)) ∧ rv = .bool false)) := by
 refine pub_of TT_ok Try.func55 rfl (by decide) (Nat.le_of_ble_eq_true (by kernel_rfl)) (by kernel_rfl) ?_
 refine rg [] 2 ⟨[(4, .f), (2, .p 0), (1, .u a)], [(0, .cells (mr W xs ys [.i s, .i b, .i l, .i p, .i q]) 31)], 1⟩ [] trivial ?_
 refine xw_seq ?_
 refine reg ?_
 refine rk [] 1 0 ⟨[(9, .u a), (4, .f), (2, .p 0)], [(0, .cells (mr W xs ys [.i s, .i b, .i l, .i p, .i q]) 31)], 1⟩ [] trivial ?_
 by_cases h0 : 1 ≤ a / 4294967296 ∧ a / 4294967296 ≤ 2
 ·
  refine pc (pwhere_1 a ‹_› (by omega)) ?_
  refine rk [] 7 2 ⟨[(7, .t), (5, .i (a / 4294967296 - 1)), (4, .f), (2, .p 0)], [(0, .cells (mr W xs ys [.i s, .i b, .i l, .i p, .i q]) 31)], 1⟩ [] trivial ?_
  refine en ?_
  refine an ?_
  refine rg [(6, .bool ((a / 4294967296 - 1) == s))] 9 ⟨[(4, .bool ((a / 4294967296 - 1) == s))], [], 1⟩ [True, ((a / 4294967296 - 1) == s) = ((a / 4294967296 - 1) == s), True] ⟨trivial, rfl, trivial, trivial⟩ ?_
  refine xw_ret ?_
  by_cases h1 : (a / 4294967296 - 1) = s
  ·
   exact bk_ret (.bool ((a / 4294967296 - 1) == s)) (.bool ((a / 4294967296 - 1) == s)) (.t) (by kernel_rfl) (by kernel_rfl) (wkd [((a / 4294967296 - 1) == s) = true] (by kernel_rfl) ⟨(by first | exact decide_eq_true (by omega) | exact decide_eq_false (by omega) | (simp; done) | (simp; omega) | simp_all | grind), trivial⟩) (Or.inl <| ⟨(by omega), rfl⟩)
  ·
   exact bk_ret (.bool ((a / 4294967296 - 1) == s)) (.bool ((a / 4294967296 - 1) == s)) (.f) (by kernel_rfl) (by kernel_rfl) (wkd [((a / 4294967296 - 1) == s) = false] (by kernel_rfl) ⟨(by first | exact decide_eq_true (by omega) | exact decide_eq_false (by omega) | (simp; done) | (simp; omega) | simp_all | grind), trivial⟩) (Or.inr <| ⟨(by omega), rfl⟩)
 ·
  refine pc (pwhere_2 a ‹_› (by omega)) ?_
  refine rk [] 7 2 ⟨[(7, .f), (5, .i 0), (4, .f), (2, .p 0)], [(0, .cells (mr W xs ys [.i s, .i b, .i l, .i p, .i q]) 31)], 1⟩ [] trivial ?_
  refine en ?_
  refine an ?_
  refine rg [] 9 ⟨[(4, .f)], [], 1⟩ [True] ⟨trivial, trivial⟩ ?_
  refine xw_ret ?_
  exact bs (.f) (Or.inr <| ⟨(by omega), rfl⟩)

theorem tover_1 (W : Int) (xs : List Int) (ys : List Int) (s : Int) (b : Int) (l : Int) (p : Int) (q : Int) (a : Int) (hp0 : 16 ≤ W ∧ W ≤ 4096) (hp1 : (xs.length : Int) = W) (hp2 : (ys.length : Int) = W) (hp3 : U64s xs) (hp4 : U64s ys) (hp5 : (s = 0 ∨ s = 1) ∧ 0 ≤ b ∧ b ≤ l ∧ l ≤ 4096) (hp6 : l = W) (hp7 : 0 ≤ p ∧ p ≤ q ∧ q ≤ b) (hp8 : 0 ≤ a ∧ a ≤ 18446744073709551615) (hp9 : 1 ≤ a / 4294967296 ∧ a / 4294967296 ≤ 2 ∧ a / 4294967296 - 1 = s) : Pub Try.prog 55 [.agg (mr W xs ys [.int .i64 s, .int .i64 b, .int .i64 l, .int .i64 p, .int .i64 q]), .int .u64 a] (fun rv => rv = .bool true) := by
  refine (tover W xs ys s b l p q a hp0 hp1 hp2 hp3 hp4 hp5 hp6 hp7 hp8).mono ?_
  rintro _ (⟨g0, rfl⟩ | ⟨g0, rfl⟩)
  · rfl
  · exfalso; first | omega | grind

theorem tover_2 (W : Int) (xs : List Int) (ys : List Int) (s : Int) (b : Int) (l : Int) (p : Int) (q : Int) (a : Int) (hp0 : 16 ≤ W ∧ W ≤ 4096) (hp1 : (xs.length : Int) = W) (hp2 : (ys.length : Int) = W) (hp3 : U64s xs) (hp4 : U64s ys) (hp5 : (s = 0 ∨ s = 1) ∧ 0 ≤ b ∧ b ≤ l ∧ l ≤ 4096) (hp6 : l = W) (hp7 : 0 ≤ p ∧ p ≤ q ∧ q ≤ b) (hp8 : 0 ≤ a ∧ a ≤ 18446744073709551615) (hp9 : ¬ (1 ≤ a / 4294967296 ∧ a / 4294967296 ≤ 2 ∧ a / 4294967296 - 1 = s)) : Pub Try.prog 55 [.agg (mr W xs ys [.int .i64 s, .int .i64 b, .int .i64 l, .int .i64 p, .int .i64 q]), .int .u64 a] (fun rv => rv = .bool false) := by
  refine (tover W xs ys s b l p q a hp0 hp1 hp2 hp3 hp4 hp5 hp6 hp7 hp8).mono ?_
  rintro _ (⟨g0, rfl⟩ | ⟨g0, rfl⟩)
  · exfalso; first | omega | grind
  · rfl

theorem rtover (W : Int) (xs : List Int) (ys : List Int) (s : Int) (b : Int) (l : Int) (p : Int) (q : Int) (a : Int) (hp0 : 16 ≤ W ∧ W ≤ 4096) (hp1 : (xs.length : Int) = W) (hp2 : (ys.length : Int) = W) (hp3 : U64s xs) (hp4 : U64s ys) (hp5 : (s = 0 ∨ s = 1) ∧ 0 ≤ b ∧ b ≤ l ∧ l ≤ 4096) (hp6 : l = W) (hp7 : 0 ≤ p ∧ p ≤ q ∧ q ≤ b) (hp8 : 0 ≤ a ∧ a ≤ 18446744073709551615) : Pub Try.prog 21 [.agg (mr W xs ys [.int .i64 s, .int .i64 b, .int .i64 l, .int .i64 p, .int .i64 q]), .int .u64 a] (fun rv => ((1 ≤ a / 4294967296 ∧ a / 4294967296 ≤ 2 ∧ a / 4294967296 - 1 = s) ∧ rv = .bool true) ∨ ((¬ (1 ≤ a / 4294967296 ∧ a / 4294967296 ≤ 2 ∧ a / 4294967296 - 1 = s)) ∧ rv = .bool false)) := by
 refine pub_of TT_ok Try.func21 rfl (by decide) (Nat.le_of_ble_eq_true (by kernel_rfl)) (by kernel_rfl) ?_
 refine rg [] 2 ⟨[(4, .f), (2, .p 0), (1, .u a)], [(0, .cells (mr W xs ys [.i s, .i b, .i l, .i p, .i q]) 31)], 1⟩ [] trivial ?_
 refine xw_seq ?_
 refine reg ?_
 refine rk [] 1 0 ⟨[(9, .u a), (4, .f), (2, .p 0)], [(0, .cells (mr W xs ys [.i s, .i b, .i l, .i p, .i q]) 31)], 1⟩ [] trivial ?_
 by_cases h0 : 1 ≤ a / 4294967296 ∧ a / 4294967296 ≤ 2
 ·
  refine pc (rwhere_1 a ‹_› (by omega)) ?_
  refine rk [] 7 2 ⟨[(7, .t), (5, .i (a / 4294967296 - 1)), (4, .f), (2, .p 0)], [(0, .cells (mr W xs ys [.i s, .i b, .i l, .i p, .i q]) 31)], 1⟩ [] trivial ?_
  refine en ?_
  refine an ?_
  refine rg [(6, .bool ((a / 4294967296 - 1) == s))] 9 ⟨[(4, .bool ((a / 4294967296 - 1) == s))], [], 1⟩ [True, ((a / 4294967296 - 1) == s) = ((a / 4294967296 - 1) == s), True] ⟨trivial, rfl, trivial, trivial⟩ ?_
  refine xw_ret ?_
  by_cases h1 : (a / 4294967296 - 1) = s
  ·
   exact bk_ret (.bool ((a / 4294967296 - 1) == s)) (.bool ((a / 4294967296 - 1) == s)) (.t) (by kernel_rfl) (by kernel_rfl) (wkd [((a / 4294967296 - 1) == s) = true] (by kernel_rfl) ⟨(by first | exact decide_eq_true (by omega) | exact decide_eq_false (by omega) | (simp; done) | (simp; omega) | simp_all | grind), trivial⟩) (Or.inl <| ⟨(by omega), rfl⟩)
  ·
   exact bk_ret (.bool ((a / 4294967296 - 1) == s)) (.bool ((a / 4294967296 - 1) == s)) (.f) (by kernel_rfl) (by kernel_rfl) (wkd [((a / 4294967296 - 1) == s) = false] (by kernel_rfl) ⟨(by first | exact decide_eq_true (by omega) | exact decide_eq_false (by omega) | (simp; done) | (simp; omega) | simp_all | grind), trivial⟩) (Or.inr <| ⟨(by omega), rfl⟩)
 ·
  refine pc (rwhere_2 a ‹_› (by omega)) ?_
  refine rk [] 7 2 ⟨[(7, .f), (5, .i 0), (4, .f), (2, .p 0)], [(0, .cells (mr W xs ys [.i s, .i b, .i l, .i p, .i q]) 31)], 1⟩ [] trivial ?_
  refine en ?_
  refine an ?_
  refine rg [] 9 ⟨[(4, .f)], [], 1⟩ [True] ⟨trivial, trivial⟩ ?_
  refine xw_ret ?_
  exact bs (.f) (Or.inr <| ⟨(by omega), rfl⟩)

theorem rtover_1 (W : Int) (xs : List Int) (ys : List Int) (s : Int) (b : Int) (l : Int) (p : Int) (q : Int) (a : Int) (hp0 : 16 ≤ W ∧ W ≤ 4096) (hp1 : (xs.length : Int) = W) (hp2 : (ys.length : Int) = W) (hp3 : U64s xs) (hp4 : U64s ys) (hp5 : (s = 0 ∨ s = 1) ∧ 0 ≤ b ∧ b ≤ l ∧ l ≤ 4096) (hp6 : l = W) (hp7 : 0 ≤ p ∧ p ≤ q ∧ q ≤ b) (hp8 : 0 ≤ a ∧ a ≤ 18446744073709551615) (hp9 : 1 ≤ a / 4294967296 ∧ a / 4294967296 ≤ 2 ∧ a / 4294967296 - 1 = s) : Pub Try.prog 21 [.agg (mr W xs ys [.int .i64 s, .int .i64 b, .int .i64 l, .int .i64 p, .int .i64 q]), .int .u64 a] (fun rv => rv = .bool true) := by
  refine (rtover W xs ys s b l p q a hp0 hp1 hp2 hp3 hp4 hp5 hp6 hp7 hp8).mono ?_
  rintro _ (⟨g0, rfl⟩ | ⟨g0, rfl⟩)
  · rfl
  · exfalso; first | omega | grind

theorem rtover_2 (W : Int) (xs : List Int) (ys : List Int) (s : Int) (b : Int) (l : Int) (p : Int) (q : Int) (a : Int) (hp0 : 16 ≤ W ∧ W ≤ 4096) (hp1 : (xs.length : Int) = W) (hp2 : (ys.length : Int) = W) (hp3 : U64s xs) (hp4 : U64s ys) (hp5 : (s = 0 ∨ s = 1) ∧ 0 ≤ b ∧ b ≤ l ∧ l ≤ 4096) (hp6 : l = W) (hp7 : 0 ≤ p ∧ p ≤ q ∧ q ≤ b) (hp8 : 0 ≤ a ∧ a ≤ 18446744073709551615) (hp9 : ¬ (1 ≤ a / 4294967296 ∧ a / 4294967296 ≤ 2 ∧ a / 4294967296 - 1 = s)) : Pub Try.prog 21 [.agg (mr W xs ys [.int .i64 s, .int .i64 b, .int .i64 l, .int .i64 p, .int .i64 q]), .int .u64 a] (fun rv => rv = .bool false) := by
  refine (rtover W xs ys s b l p q a hp0 hp1 hp2 hp3 hp4 hp5 hp6 hp7 hp8).mono ?_
  rintro _ (⟨g0, rfl⟩ | ⟨g0, rfl⟩)
  · exfalso; first | omega | grind
  · rfl

theorem tmade (W : Int) (xs : List Int) (ys : List Int) (s : Int) (b : Int) (l : Int) (p : Int) (q : Int) (a : Int) (hp0 : 16 ≤ W ∧ W ≤ 4096) (hp1 : (xs.length : Int) = W) (hp2 : (ys.length : Int) = W) (hp3 : U64s xs) (hp4 : U64s ys) (hp5 : (s = 0 ∨ s = 1) ∧ 0 ≤ b ∧ b ≤ l ∧ l ≤ 4096) (hp6 : l = W) (hp7 : 0 ≤ p ∧ p ≤ q ∧ q ≤ b) (hp8 : 0 ≤ a ∧ a ≤ 18446744073709551615) : Pub Try.prog 34 [.agg (mr W xs ys [.int .i64 s, .int .i64 b, .int .i64 l, .int .i64 p, .int .i64 q]), .int .u64 a] (fun rv => ((a = 0 ∨ ((oErr W xs ys a) = 0 ∧ (ldw xs ys a / 72057594037927936) ≠ 255 ∧ ((1 ≤ a / 4294967296 ∧ a / 4294967296 ≤ 2 ∧ a / 4294967296 - 1 = s) ∨ (ldw xs ys (a + 1)) ≠ 0))) ∧ rv = .bool true) ∨ ((¬ (a = 0 ∨ ((oErr W xs ys a) = 0 ∧ (ldw xs ys a / 72057594037927936) ≠ 255 ∧ ((1 ≤ a / 4294967296 ∧ a / 4294967296 ≤ 2 ∧ a / 4294967296 - 1 = s) ∨ (ldw xs ys (a + 1)) ≠ 0)))) ∧ rv = .bool false)) := by
 refine pub_of TT_ok Try.func34 rfl (by decide) (Nat.le_of_ble_eq_true (by kernel_rfl)) (by kernel_rfl) ?_
 refine rg [] 2 ⟨[(4, .f), (2, .p 0), (1, .u a)], [(0, .cells (mr W xs ys [.i s, .i b, .i l, .i p, .i q]) 31)], 1⟩ [] trivial ?_
 refine xw_seq ?_
 refine reg ?_
 refine rk [] 3 0 ⟨[(10, .u a), (9, .agg (mm W xs ys)), (4, .f), (2, .p 0), (1, .u a)], [(0, .cells (mr W xs ys [.i s, .i b, .i l, .i p, .i q]) 31)], 1⟩ [True] ⟨trivial, trivial⟩ ?_
 by_cases h0 : ((oErr W xs ys a) = 0) ∧ ((ldw xs ys a / 72057594037927936) ≠ 255)
 ·
  refine pc (otwin_1 W xs ys a ‹_› ‹_› ‹_› ‹_› ‹_› ‹_› (by omega) (by omega)) ?_
  obtain ⟨h1, h2, h3⟩ := oErr_ok W xs ys a (by omega)
  have h4 : 0 ≤ (ldw xs ys (a + 1)) ∧ (ldw xs ys (a + 1)) ≤ 18446744073709551615 := ldw_ok xs ys (a + 1) ‹_› ‹_›
  have h5 : 1 ≤ (a + 1) / 4294967296 ∧ (a + 1) / 4294967296 ≤ 2 ∧ (a + 1) % 4294967296 < W := by omega
  refine rk [] 5 4 ⟨[(6, .i 0), (5, .u (ldw xs ys (a + 1))), (4, .f), (2, .p 0), (1, .u a)], [(0, .cells (mr W xs ys [.i s, .i b, .i l, .i p, .i q]) 31)], 1⟩ [] trivial ?_
  refine en ?_
  refine an ?_
  refine xw_seq ?_
  refine xw_block ?_
  refine rg [(1, .f)] 3 ⟨[(14, .f), (6, .i 0), (5, .u (ldw xs ys (a + 1))), (4, .f), (2, .p 0), (1, .u a)], [(0, .cells (mr W xs ys [.i s, .i b, .i l, .i p, .i q]) 31)], 1⟩ [(a == 0) = false] ⟨beq_eq_false_iff_ne.2 (by omega), trivial⟩ ?_
  refine cf ?_
  refine rg [(1, .f)] 3 ⟨[(17, .f), (5, .u (ldw xs ys (a + 1))), (4, .f), (2, .p 0), (1, .u a)], [(0, .cells (mr W xs ys [.i s, .i b, .i l, .i p, .i q]) 31)], 1⟩ [(0 != 0) = false] ⟨bne_eq_false_iff_eq.2 (by omega), trivial⟩ ?_
  refine cf ?_
  refine xw_skip ?_
  refine ib ?_
  refine an ?_
  refine xw_seq ?_
  refine reg ?_
  refine rk [] 2 0 ⟨[(21, .u a), (20, .agg (mr W xs ys [.i s, .i b, .i l, .i p, .i q])), (5, .u (ldw xs ys (a + 1))), (4, .f)], [], 1⟩ [True] ⟨trivial, trivial⟩ ?_
  by_cases h6 : 1 ≤ a / 4294967296 ∧ a / 4294967296 ≤ 2 ∧ a / 4294967296 - 1 = s
  ·
   refine pc (tover_1 W xs ys s b l p q a ‹_› ‹_› ‹_› ‹_› ‹_› ‹_› ‹_› ‹_› ‹_› (by omega)) ?_
   refine rk [] 5 3 ⟨[(4, .t)], [], 1⟩ [True] ⟨trivial, trivial⟩ ?_
   refine en ?_
   refine an ?_
   refine xw_ret ?_
   exact bs (.t) (Or.inl <| ⟨(by omega), rfl⟩)
  ·
   refine pc (tover_2 W xs ys s b l p q a ‹_› ‹_› ‹_› ‹_› ‹_› ‹_› ‹_› ‹_› ‹_› (by omega)) ?_
   refine rk [(5, .bool ((ldw xs ys (a + 1)) != 0))] 5 3 ⟨[(4, .bool ((ldw xs ys (a + 1)) != 0))], [], 1⟩ [((ldw xs ys (a + 1)) != 0) = ((ldw xs ys (a + 1)) != 0), True] ⟨rfl, trivial, trivial⟩ ?_
   refine en ?_
   refine an ?_
   refine xw_ret ?_
   by_cases h7 : (ldw xs ys (a + 1)) ≠ 0
   ·
    exact bk_ret (.bool ((ldw xs ys (a + 1)) != 0)) (.bool ((ldw xs ys (a + 1)) != 0)) (.t) (by kernel_rfl) (by kernel_rfl) (wkd [((ldw xs ys (a + 1)) != 0) = true] (by kernel_rfl) ⟨(by first | exact decide_eq_true (by omega) | exact decide_eq_false (by omega) | (simp; done) | (simp; omega) | simp_all | grind), trivial⟩) (Or.inl <| ⟨(by omega), rfl⟩)
   ·
    exact bk_ret (.bool ((ldw xs ys (a + 1)) != 0)) (.bool ((ldw xs ys (a + 1)) != 0)) (.f) (by kernel_rfl) (by kernel_rfl) (wkd [((ldw xs ys (a + 1)) != 0) = false] (by kernel_rfl) ⟨(by first | exact decide_eq_true (by omega) | exact decide_eq_false (by omega) | (simp; done) | (simp; omega) | simp_all | grind), trivial⟩) (Or.inr <| ⟨(by omega), rfl⟩)
 ·
  by_cases h1 : ((oErr W xs ys a) = 0) ∧ ((ldw xs ys a / 72057594037927936) = 255)
  ·
   refine pc (otwin_2 W xs ys a ‹_› ‹_› ‹_› ‹_› ‹_› ‹_› (by omega) (by omega)) ?_
   obtain ⟨h2, h3, h4⟩ := oErr_ok W xs ys a (by omega)
   refine rk [] 5 4 ⟨[(6, .i 8), (5, .u 0), (4, .f), (2, .p 0), (1, .u a)], [(0, .cells (mr W xs ys [.i s, .i b, .i l, .i p, .i q]) 31)], 1⟩ [] trivial ?_
   refine en ?_
   refine an ?_
   refine xw_seq ?_
   refine xw_block ?_
   refine rg [(1, .f)] 3 ⟨[(14, .f), (6, .i 8), (5, .u 0), (4, .f), (2, .p 0), (1, .u a)], [(0, .cells (mr W xs ys [.i s, .i b, .i l, .i p, .i q]) 31)], 1⟩ [(a == 0) = false] ⟨beq_eq_false_iff_ne.2 (by omega), trivial⟩ ?_
   refine cf ?_
   refine rg [(1, .t)] 3 ⟨[(17, .t), (5, .u 0), (4, .f), (2, .p 0), (1, .u a)], [(0, .cells (mr W xs ys [.i s, .i b, .i l, .i p, .i q]) 31)], 1⟩ [(8 != 0) = true] ⟨bne_iff_ne.2 (by omega), trivial⟩ ?_
   refine ct ?_
   refine rg [] 1 ⟨[(4, .f), (5, .u 0), (2, .p 0), (1, .u a)], [(0, .cells (mr W xs ys [.i s, .i b, .i l, .i p, .i q]) 31)], 1⟩ [] trivial ?_
   refine xw_ret ?_
   refine ib_ret ?_
   refine an_ret ?_
   exact bs (.f) (Or.inr <| ⟨(by omega), rfl⟩)
  ·
   refine pc (otwin_3 W xs ys a ‹_› ‹_› ‹_› ‹_› ‹_› ‹_› (by omega)) ?_
   have h2 : (oErr W xs ys a) = 2 ∨ (oErr W xs ys a) = 10 := oErr_no W xs ys a (by omega)
   refine rk [] 5 4 ⟨[(6, .i (oErr W xs ys a)), (5, .u 0), (4, .f), (2, .p 0), (1, .u a)], [(0, .cells (mr W xs ys [.i s, .i b, .i l, .i p, .i q]) 31)], 1⟩ [] trivial ?_
   refine en ?_
   refine an ?_
   refine xw_seq ?_
   refine xw_block ?_
   refine rg [(1, .bool (a == 0))] 3 ⟨[(14, .bool (a == 0)), (6, .i (oErr W xs ys a)), (5, .u 0), (4, .f), (2, .p 0), (1, .u a)], [(0, .cells (mr W xs ys [.i s, .i b, .i l, .i p, .i q]) 31)], 1⟩ [(a == 0) = (a == 0)] ⟨rfl, trivial⟩ ?_
   refine xw_cond (b := (a == 0)) (by kernel_rfl) (fun h3 => ?_) (fun h3 => ?_)
   ·
    replace h3 : a = 0 := eq_of_beq h3
    refine rg [] 1 ⟨[(4, .t), (5, .u 0), (2, .p 0), (1, .u a)], [(0, .cells (mr W xs ys [.i s, .i b, .i l, .i p, .i q]) 31)], 1⟩ [] trivial ?_
    refine xw_ret ?_
    refine ib_ret ?_
    refine an_ret ?_
    exact bs (.t) (Or.inl <| ⟨(by omega), rfl⟩)
   ·
    replace h3 : a ≠ 0 := ne_of_beq_false h3
    refine rg [(1, .t)] 3 ⟨[(17, .t), (5, .u 0), (4, .f), (2, .p 0), (1, .u a)], [(0, .cells (mr W xs ys [.i s, .i b, .i l, .i p, .i q]) 31)], 1⟩ [((oErr W xs ys a) != 0) = true] ⟨bne_iff_ne.2 (by omega), trivial⟩ ?_
    refine ct ?_
    refine rg [] 1 ⟨[(4, .f), (5, .u 0), (2, .p 0), (1, .u a)], [(0, .cells (mr W xs ys [.i s, .i b, .i l, .i p, .i q]) 31)], 1⟩ [] trivial ?_
    refine xw_ret ?_
    refine ib_ret ?_
    refine an_ret ?_
    exact bs (.f) (Or.inr <| ⟨(by omega), rfl⟩)

theorem tmade_1 (W : Int) (xs : List Int) (ys : List Int) (s : Int) (b : Int) (l : Int) (p : Int) (q : Int) (a : Int) (hp0 : 16 ≤ W ∧ W ≤ 4096) (hp1 : (xs.length : Int) = W) (hp2 : (ys.length : Int) = W) (hp3 : U64s xs) (hp4 : U64s ys) (hp5 : (s = 0 ∨ s = 1) ∧ 0 ≤ b ∧ b ≤ l ∧ l ≤ 4096) (hp6 : l = W) (hp7 : 0 ≤ p ∧ p ≤ q ∧ q ≤ b) (hp8 : 0 ≤ a ∧ a ≤ 18446744073709551615) (hp9 : a = 0 ∨ ((oErr W xs ys a) = 0 ∧ (ldw xs ys a / 72057594037927936) ≠ 255 ∧ ((1 ≤ a / 4294967296 ∧ a / 4294967296 ≤ 2 ∧ a / 4294967296 - 1 = s) ∨ (ldw xs ys (a + 1)) ≠ 0))) : Pub Try.prog 34 [.agg (mr W xs ys [.int .i64 s, .int .i64 b, .int .i64 l, .int .i64 p, .int .i64 q]), .int .u64 a] (fun rv => rv = .bool true) := by
  refine (tmade W xs ys s b l p q a hp0 hp1 hp2 hp3 hp4 hp5 hp6 hp7 hp8).mono ?_
  rintro _ (⟨g0, rfl⟩ | ⟨g0, rfl⟩)
  · rfl
  · exfalso; first | omega | grind

theorem tmade_2 (W : Int) (xs : List Int) (ys : List Int) (s : Int) (b : Int) (l : Int) (p : Int) (q : Int) (a : Int) (hp0 : 16 ≤ W ∧ W ≤ 4096) (hp1 : (xs.length : Int) = W) (hp2 : (ys.length : Int) = W) (hp3 : U64s xs) (hp4 : U64s ys) (hp5 : (s = 0 ∨ s = 1) ∧ 0 ≤ b ∧ b ≤ l ∧ l ≤ 4096) (hp6 : l = W) (hp7 : 0 ≤ p ∧ p ≤ q ∧ q ≤ b) (hp8 : 0 ≤ a ∧ a ≤ 18446744073709551615) (hp9 : ¬ (a = 0 ∨ ((oErr W xs ys a) = 0 ∧ (ldw xs ys a / 72057594037927936) ≠ 255 ∧ ((1 ≤ a / 4294967296 ∧ a / 4294967296 ≤ 2 ∧ a / 4294967296 - 1 = s) ∨ (ldw xs ys (a + 1)) ≠ 0)))) : Pub Try.prog 34 [.agg (mr W xs ys [.int .i64 s, .int .i64 b, .int .i64 l, .int .i64 p, .int .i64 q]), .int .u64 a] (fun rv => rv = .bool false) := by
  refine (tmade W xs ys s b l p q a hp0 hp1 hp2 hp3 hp4 hp5 hp6 hp7 hp8).mono ?_
  rintro _ (⟨g0, rfl⟩ | ⟨g0, rfl⟩)
  · exfalso; first | omega | grind
  · rfl

theorem rtmade (W : Int) (xs : List Int) (ys : List Int) (s : Int) (b : Int) (l : Int) (p : Int) (q : Int) (a : Int) (hp0 : 16 ≤ W ∧ W ≤ 4096) (hp1 : (xs.length : Int) = W) (hp2 : (ys.length : Int) = W) (hp3 : U64s xs) (hp4 : U64s ys) (hp5 : (s = 0 ∨ s = 1) ∧ 0 ≤ b ∧ b ≤ l ∧ l ≤ 4096) (hp6 : l = W) (hp7 : 0 ≤ p ∧ p ≤ q ∧ q ≤ b) (hp8 : 0 ≤ a ∧ a ≤ 18446744073709551615) : Pub Try.prog 9 [.agg (mr W xs ys [.int .i64 s, .int .i64 b, .int .i64 l, .int .i64 p, .int .i64 q]), .int .u64 a] (fun rv => ((a = 0 ∨ ((oErr W xs ys a) = 0 ∧ (ldw xs ys a / 72057594037927936) ≠ 255 ∧ ((1 ≤ a / 4294967296 ∧ a / 4294967296 ≤ 2 ∧ a / 4294967296 - 1 = s) ∨ (ldw xs ys (a + 1)) ≠ 0))) ∧ rv = .bool true) ∨ ((¬ (a = 0 ∨ ((oErr W xs ys a) = 0 ∧ (ldw xs ys a / 72057594037927936) ≠ 255 ∧ ((1 ≤ a / 4294967296 ∧ a / 4294967296 ≤ 2 ∧ a / 4294967296 - 1 = s) ∨ (ldw xs ys (a + 1)) ≠ 0)))) ∧ rv = .bool false)) := by
 refine pub_of TT_ok Try.func9 rfl (by decide) (Nat.le_of_ble_eq_true (by kernel_rfl)) (by kernel_rfl) ?_
 refine rg [] 2 ⟨[(4, .f), (2, .p 0), (1, .u a)], [(0, .cells (mr W xs ys [.i s, .i b, .i l, .i p, .i q]) 31)], 1⟩ [] trivial ?_
 refine xw_seq ?_
 refine rg [(1, .bool (a == 0))] 2 ⟨[(9, .bool (a == 0)), (4, .f), (2, .p 0), (1, .u a)], [(0, .cells (mr W xs ys [.i s, .i b, .i l, .i p, .i q]) 31)], 1⟩ [(a == 0) = (a == 0)] ⟨rfl, trivial⟩ ?_
 refine xw_cond (b := (a == 0)) (by kernel_rfl) (fun h0 => ?_) (fun h0 => ?_)
 ·
  replace h0 : a = 0 := eq_of_beq h0
  refine rg [] 1 ⟨[(4, .t), (2, .p 0), (1, .u a)], [(0, .cells (mr W xs ys [.i s, .i b, .i l, .i p, .i q]) 31)], 1⟩ [] trivial ?_
  refine xw_ret ?_
  refine an_ret ?_
  exact bs (.t) (Or.inl <| ⟨(by omega), rfl⟩)
 ·
  replace h0 : a ≠ 0 := ne_of_beq_false h0
  refine xw_skip ?_
  refine an ?_
  refine xw_seq ?_
  refine reg ?_
  refine rk [] 3 0 ⟨[(13, .u a), (12, .agg (mm W xs ys)), (4, .f), (2, .p 0), (1, .u a)], [(0, .cells (mr W xs ys [.i s, .i b, .i l, .i p, .i q]) 31)], 1⟩ [True] ⟨trivial, trivial⟩ ?_
  by_cases h1 : ((oErr W xs ys a) = 0) ∧ ((ldw xs ys a / 72057594037927936) ≠ 255)
  ·
   refine pc (rotwin_1 W xs ys a ‹_› ‹_› ‹_› ‹_› ‹_› ‹_› (by omega) (by omega)) ?_
   obtain ⟨h2, h3, h4⟩ := oErr_ok W xs ys a (by omega)
   have h5 : 0 ≤ (ldw xs ys (a + 1)) ∧ (ldw xs ys (a + 1)) ≤ 18446744073709551615 := ldw_ok xs ys (a + 1) ‹_› ‹_›
   have h6 : 1 ≤ (a + 1) / 4294967296 ∧ (a + 1) / 4294967296 ≤ 2 ∧ (a + 1) % 4294967296 < W := by omega
   refine rk [] 5 4 ⟨[(6, .i 0), (5, .u (ldw xs ys (a + 1))), (4, .f), (2, .p 0), (1, .u a)], [(0, .cells (mr W xs ys [.i s, .i b, .i l, .i p, .i q]) 31)], 1⟩ [] trivial ?_
   refine en ?_
   refine an ?_
   refine xw_seq ?_
   refine rg [(1, .f)] 2 ⟨[(18, .f), (5, .u (ldw xs ys (a + 1))), (4, .f), (2, .p 0), (1, .u a)], [(0, .cells (mr W xs ys [.i s, .i b, .i l, .i p, .i q]) 31)], 1⟩ [(0 != 0) = false] ⟨bne_eq_false_iff_eq.2 (by omega), trivial⟩ ?_
   refine cf ?_
   refine xw_skip ?_
   refine an ?_
   refine xw_seq ?_
   refine reg ?_
   refine rk [] 2 0 ⟨[(20, .u a), (19, .agg (mr W xs ys [.i s, .i b, .i l, .i p, .i q])), (5, .u (ldw xs ys (a + 1))), (4, .f)], [], 1⟩ [True] ⟨trivial, trivial⟩ ?_
   by_cases h7 : 1 ≤ a / 4294967296 ∧ a / 4294967296 ≤ 2 ∧ a / 4294967296 - 1 = s
   ·
    refine pc (rtover_1 W xs ys s b l p q a ‹_› ‹_› ‹_› ‹_› ‹_› ‹_› ‹_› ‹_› ‹_› (by omega)) ?_
    refine rk [] 1 3 ⟨[(7, .t), (5, .u (ldw xs ys (a + 1))), (4, .f)], [], 1⟩ [] trivial ?_
    refine en ?_
    refine an ?_
    refine rg [] 6 ⟨[(4, .t)], [], 1⟩ [True] ⟨trivial, trivial⟩ ?_
    refine xw_ret ?_
    exact bs (.t) (Or.inl <| ⟨(by omega), rfl⟩)
   ·
    refine pc (rtover_2 W xs ys s b l p q a ‹_› ‹_› ‹_› ‹_› ‹_› ‹_› ‹_› ‹_› ‹_› (by omega)) ?_
    refine rk [] 1 3 ⟨[(7, .f), (5, .u (ldw xs ys (a + 1))), (4, .f)], [], 1⟩ [] trivial ?_
    refine en ?_
    refine an ?_
    refine rg [(3, .bool ((ldw xs ys (a + 1)) != 0))] 6 ⟨[(4, .bool ((ldw xs ys (a + 1)) != 0))], [], 1⟩ [((ldw xs ys (a + 1)) != 0) = ((ldw xs ys (a + 1)) != 0), True] ⟨rfl, trivial, trivial⟩ ?_
    refine xw_ret ?_
    by_cases h8 : (ldw xs ys (a + 1)) ≠ 0
    ·
     exact bk_ret (.bool ((ldw xs ys (a + 1)) != 0)) (.bool ((ldw xs ys (a + 1)) != 0)) (.t) (by kernel_rfl) (by kernel_rfl) (wkd [((ldw xs ys (a + 1)) != 0) = true] (by kernel_rfl) ⟨(by first | exact decide_eq_true (by omega) | exact decide_eq_false (by omega) | (simp; done) | (simp; omega) | simp_all | grind), trivial⟩) (Or.inl <| ⟨(by omega), rfl⟩)
    ·
     exact bk_ret (.bool ((ldw xs ys (a + 1)) != 0)) (.bool ((ldw xs ys (a + 1)) != 0)) (.f) (by kernel_rfl) (by kernel_rfl) (wkd [((ldw xs ys (a + 1)) != 0) = false] (by kernel_rfl) ⟨(by first | exact decide_eq_true (by omega) | exact decide_eq_false (by omega) | (simp; done) | (simp; omega) | simp_all | grind), trivial⟩) (Or.inr <| ⟨(by omega), rfl⟩)
  ·
   by_cases h2 : ((oErr W xs ys a) = 0) ∧ ((ldw xs ys a / 72057594037927936) = 255)
   ·
    refine pc (rotwin_2 W xs ys a ‹_› ‹_› ‹_› ‹_› ‹_› ‹_› (by omega) (by omega)) ?_
    obtain ⟨h3, h4, h5⟩ := oErr_ok W xs ys a (by omega)
    refine rk [] 5 4 ⟨[(6, .i 8), (5, .u 0), (4, .f), (2, .p 0), (1, .u a)], [(0, .cells (mr W xs ys [.i s, .i b, .i l, .i p, .i q]) 31)], 1⟩ [] trivial ?_
    refine en ?_
    refine an ?_
    refine xw_seq ?_
    refine rg [(1, .t)] 2 ⟨[(18, .t), (5, .u 0), (4, .f), (2, .p 0), (1, .u a)], [(0, .cells (mr W xs ys [.i s, .i b, .i l, .i p, .i q]) 31)], 1⟩ [(8 != 0) = true] ⟨bne_iff_ne.2 (by omega), trivial⟩ ?_
    refine ct ?_
    refine rg [] 1 ⟨[(4, .f), (5, .u 0), (2, .p 0), (1, .u a)], [(0, .cells (mr W xs ys [.i s, .i b, .i l, .i p, .i q]) 31)], 1⟩ [] trivial ?_
    refine xw_ret ?_
    refine an_ret ?_
    exact bs (.f) (Or.inr <| ⟨(by omega), rfl⟩)
   ·
    refine pc (rotwin_3 W xs ys a ‹_› ‹_› ‹_› ‹_› ‹_› ‹_› (by omega)) ?_
    have h3 : (oErr W xs ys a) = 2 ∨ (oErr W xs ys a) = 10 := oErr_no W xs ys a (by omega)
    refine rk [] 5 4 ⟨[(6, .i (oErr W xs ys a)), (5, .u 0), (4, .f), (2, .p 0), (1, .u a)], [(0, .cells (mr W xs ys [.i s, .i b, .i l, .i p, .i q]) 31)], 1⟩ [] trivial ?_
    refine en ?_
    refine an ?_
    refine xw_seq ?_
    refine rg [(1, .t)] 2 ⟨[(18, .t), (5, .u 0), (4, .f), (2, .p 0), (1, .u a)], [(0, .cells (mr W xs ys [.i s, .i b, .i l, .i p, .i q]) 31)], 1⟩ [((oErr W xs ys a) != 0) = true] ⟨bne_iff_ne.2 (by omega), trivial⟩ ?_
    refine ct ?_
    refine rg [] 1 ⟨[(4, .f), (5, .u 0), (2, .p 0), (1, .u a)], [(0, .cells (mr W xs ys [.i s, .i b, .i l, .i p, .i q]) 31)], 1⟩ [] trivial ?_
    refine xw_ret ?_
    refine an_ret ?_
    exact bs (.f) (Or.inr <| ⟨(by omega), rfl⟩)

theorem rtmade_1 (W : Int) (xs : List Int) (ys : List Int) (s : Int) (b : Int) (l : Int) (p : Int) (q : Int) (a : Int) (hp0 : 16 ≤ W ∧ W ≤ 4096) (hp1 : (xs.length : Int) = W) (hp2 : (ys.length : Int) = W) (hp3 : U64s xs) (hp4 : U64s ys) (hp5 : (s = 0 ∨ s = 1) ∧ 0 ≤ b ∧ b ≤ l ∧ l ≤ 4096) (hp6 : l = W) (hp7 : 0 ≤ p ∧ p ≤ q ∧ q ≤ b) (hp8 : 0 ≤ a ∧ a ≤ 18446744073709551615) (hp9 : a = 0 ∨ ((oErr W xs ys a) = 0 ∧ (ldw xs ys a / 72057594037927936) ≠ 255 ∧ ((1 ≤ a / 4294967296 ∧ a / 4294967296 ≤ 2 ∧ a / 4294967296 - 1 = s) ∨ (ldw xs ys (a + 1)) ≠ 0))) : Pub Try.prog 9 [.agg (mr W xs ys [.int .i64 s, .int .i64 b, .int .i64 l, .int .i64 p, .int .i64 q]), .int .u64 a] (fun rv => rv = .bool true) := by
  refine (rtmade W xs ys s b l p q a hp0 hp1 hp2 hp3 hp4 hp5 hp6 hp7 hp8).mono ?_
  rintro _ (⟨g0, rfl⟩ | ⟨g0, rfl⟩)
  · rfl
  · exfalso; first | omega | grind

theorem rtmade_2 (W : Int) (xs : List Int) (ys : List Int) (s : Int) (b : Int) (l : Int) (p : Int) (q : Int) (a : Int) (hp0 : 16 ≤ W ∧ W ≤ 4096) (hp1 : (xs.length : Int) = W) (hp2 : (ys.length : Int) = W) (hp3 : U64s xs) (hp4 : U64s ys) (hp5 : (s = 0 ∨ s = 1) ∧ 0 ≤ b ∧ b ≤ l ∧ l ≤ 4096) (hp6 : l = W) (hp7 : 0 ≤ p ∧ p ≤ q ∧ q ≤ b) (hp8 : 0 ≤ a ∧ a ≤ 18446744073709551615) (hp9 : ¬ (a = 0 ∨ ((oErr W xs ys a) = 0 ∧ (ldw xs ys a / 72057594037927936) ≠ 255 ∧ ((1 ≤ a / 4294967296 ∧ a / 4294967296 ≤ 2 ∧ a / 4294967296 - 1 = s) ∨ (ldw xs ys (a + 1)) ≠ 0)))) : Pub Try.prog 9 [.agg (mr W xs ys [.int .i64 s, .int .i64 b, .int .i64 l, .int .i64 p, .int .i64 q]), .int .u64 a] (fun rv => rv = .bool false) := by
  refine (rtmade W xs ys s b l p q a hp0 hp1 hp2 hp3 hp4 hp5 hp6 hp7 hp8).mono ?_
  rintro _ (⟨g0, rfl⟩ | ⟨g0, rfl⟩)
  · exfalso; first | omega | grind
  · rfl

theorem rpover (W : Int) (xs : List Int) (ys : List Int) (s : Int) (b : Int) (l : Int) (p : Int) (q : Int) (a : Int) (hp0 : 16 ≤ W ∧ W ≤ 4096) (hp1 : (xs.length : Int) = W) (hp2 : (ys.length : Int) = W) (hp3 : U64s xs) (hp4 : U64s ys) (hp5 : (s = 0 ∨ s = 1) ∧ 0 ≤ b ∧ b ≤ l ∧ l ≤ 4096) (hp6 : l = W) (hp7 : 0 ≤ p ∧ p ≤ q ∧ q ≤ b) (hp8 : 0 ≤ a ∧ a ≤ 18446744073709551615) : Pub Try.prog 33 [.agg (mr W xs ys [.int .i64 s, .int .i64 b, .int .i64 l, .int .i64 p, .int .i64 q]), .int .u64 a] (fun rv => ((1 ≤ a / 4294967296 ∧ a / 4294967296 ≤ 2 ∧ a / 4294967296 - 1 = s) ∧ rv = .bool true) ∨ ((¬ (1 ≤ a / 4294967296 ∧ a / 4294967296 ≤ 2 ∧ a / 4294967296 - 1 = s)) ∧ rv = .bool false)) := by
 refine pub_of TT_ok Try.func33 rfl (by decide) (Nat.le_of_ble_eq_true (by kernel_rfl)) (by kernel_rfl) ?_
 refine rg [] 2 ⟨[(4, .f), (2, .p 0), (1, .u a)], [(0, .cells (mr W xs ys [.i s, .i b, .i l, .i p, .i q]) 31)], 1⟩ [] trivial ?_
 refine xw_seq ?_
 refine reg ?_
 refine rk [] 1 0 ⟨[(9, .u a), (4, .f), (2, .p 0)], [(0, .cells (mr W xs ys [.i s, .i b, .i l, .i p, .i q]) 31)], 1⟩ [] trivial ?_
 by_cases h0 : 1 ≤ a / 4294967296 ∧ a / 4294967296 ≤ 2
 ·
  refine pc (pwhere_1 a ‹_› (by omega)) ?_
  refine rk [] 7 2 ⟨[(7, .t), (5, .i (a / 4294967296 - 1)), (4, .f), (2, .p 0)], [(0, .cells (mr W xs ys [.i s, .i b, .i l, .i p, .i q]) 31)], 1⟩ [] trivial ?_
  refine en ?_
  refine an ?_
  refine rg [(6, .bool ((a / 4294967296 - 1) == s))] 9 ⟨[(4, .bool ((a / 4294967296 - 1) == s))], [], 1⟩ [True, ((a / 4294967296 - 1) == s) = ((a / 4294967296 - 1) == s), True] ⟨trivial, rfl, trivial, trivial⟩ ?_
  refine xw_ret ?_
  by_cases h1 : (a / 4294967296 - 1) = s
  ·
   exact bk_ret (.bool ((a / 4294967296 - 1) == s)) (.bool ((a / 4294967296 - 1) == s)) (.t) (by kernel_rfl) (by kernel_rfl) (wkd [((a / 4294967296 - 1) == s) = true] (by kernel_rfl) ⟨(by first | exact decide_eq_true (by omega) | exact decide_eq_false (by omega) | (simp; done) | (simp; omega) | simp_all | grind), trivial⟩) (Or.inl <| ⟨(by omega), rfl⟩)
  ·
   exact bk_ret (.bool ((a / 4294967296 - 1) == s)) (.bool ((a / 4294967296 - 1) == s)) (.f) (by kernel_rfl) (by kernel_rfl) (wkd [((a / 4294967296 - 1) == s) = false] (by kernel_rfl) ⟨(by first | exact decide_eq_true (by omega) | exact decide_eq_false (by omega) | (simp; done) | (simp; omega) | simp_all | grind), trivial⟩) (Or.inr <| ⟨(by omega), rfl⟩)
 ·
  refine pc (pwhere_2 a ‹_› (by omega)) ?_
  refine rk [] 7 2 ⟨[(7, .f), (5, .i 0), (4, .f), (2, .p 0)], [(0, .cells (mr W xs ys [.i s, .i b, .i l, .i p, .i q]) 31)], 1⟩ [] trivial ?_
  refine en ?_
  refine an ?_
  refine rg [] 9 ⟨[(4, .f)], [], 1⟩ [True] ⟨trivial, trivial⟩ ?_
  refine xw_ret ?_
  exact bs (.f) (Or.inr <| ⟨(by omega), rfl⟩)

theorem rpover_1 (W : Int) (xs : List Int) (ys : List Int) (s : Int) (b : Int) (l : Int) (p : Int) (q : Int) (a : Int) (hp0 : 16 ≤ W ∧ W ≤ 4096) (hp1 : (xs.length : Int) = W) (hp2 : (ys.length : Int) = W) (hp3 : U64s xs) (hp4 : U64s ys) (hp5 : (s = 0 ∨ s = 1) ∧ 0 ≤ b ∧ b ≤ l ∧ l ≤ 4096) (hp6 : l = W) (hp7 : 0 ≤ p ∧ p ≤ q ∧ q ≤ b) (hp8 : 0 ≤ a ∧ a ≤ 18446744073709551615) (hp9 : 1 ≤ a / 4294967296 ∧ a / 4294967296 ≤ 2 ∧ a / 4294967296 - 1 = s) : Pub Try.prog 33 [.agg (mr W xs ys [.int .i64 s, .int .i64 b, .int .i64 l, .int .i64 p, .int .i64 q]), .int .u64 a] (fun rv => rv = .bool true) := by
  refine (rpover W xs ys s b l p q a hp0 hp1 hp2 hp3 hp4 hp5 hp6 hp7 hp8).mono ?_
  rintro _ (⟨g0, rfl⟩ | ⟨g0, rfl⟩)
  · rfl
  · exfalso; first | omega | grind

theorem rpover_2 (W : Int) (xs : List Int) (ys : List Int) (s : Int) (b : Int) (l : Int) (p : Int) (q : Int) (a : Int) (hp0 : 16 ≤ W ∧ W ≤ 4096) (hp1 : (xs.length : Int) = W) (hp2 : (ys.length : Int) = W) (hp3 : U64s xs) (hp4 : U64s ys) (hp5 : (s = 0 ∨ s = 1) ∧ 0 ≤ b ∧ b ≤ l ∧ l ≤ 4096) (hp6 : l = W) (hp7 : 0 ≤ p ∧ p ≤ q ∧ q ≤ b) (hp8 : 0 ≤ a ∧ a ≤ 18446744073709551615) (hp9 : ¬ (1 ≤ a / 4294967296 ∧ a / 4294967296 ≤ 2 ∧ a / 4294967296 - 1 = s)) : Pub Try.prog 33 [.agg (mr W xs ys [.int .i64 s, .int .i64 b, .int .i64 l, .int .i64 p, .int .i64 q]), .int .u64 a] (fun rv => rv = .bool false) := by
  refine (rpover W xs ys s b l p q a hp0 hp1 hp2 hp3 hp4 hp5 hp6 hp7 hp8).mono ?_
  rintro _ (⟨g0, rfl⟩ | ⟨g0, rfl⟩)
  · exfalso; first | omega | grind
  · rfl

set_option maxHeartbeats 8000000 in
theorem rtto (W : Int) (xs : List Int) (ys : List Int) (s : Int) (b : Int) (l : Int) (p : Int) (q : Int) (a : Int) (hp0 : 16 ≤ W ∧ W ≤ 4096) (hp1 : (xs.length : Int) = W) (hp2 : (ys.length : Int) = W) (hp3 : U64s xs) (hp4 : U64s ys) (hp5 : (s = 0 ∨ s = 1) ∧ 0 ≤ b ∧ b ≤ l ∧ l ≤ 4096) (hp6 : l = W) (hp7 : 0 ≤ p ∧ p ≤ q ∧ q ≤ b) (hp8 : 0 ≤ a ∧ a ≤ 18446744073709551615) : Pub Try.prog 12 [.agg (mr W xs ys [.int .i64 s, .int .i64 b, .int .i64 l, .int .i64 p, .int .i64 q]), .int .u64 a] (fun rv => ((a = 0) ∧ rv = .tup [.agg (mr W xs ys [.int .i64 s, .int .i64 b, .int .i64 l, .int .i64 p, .int .i64 q]), .int .u64 0, .int .i64 0]) ∨ ((a ≠ 0) ∧ (¬ ((oErr W xs ys a) = 0)) ∧ rv = .tup [.agg (mr W xs ys [.int .i64 s, .int .i64 b, .int .i64 l, .int .i64 p, .int .i64 q]), .int .u64 0, .int .i64 (oErr W xs ys a)]) ∨ ((a ≠ 0) ∧ ((oErr W xs ys a) = 0) ∧ ((ldw xs ys a / 72057594037927936) = 255) ∧ rv = .tup [.agg (mr W xs ys [.int .i64 s, .int .i64 b, .int .i64 l, .int .i64 p, .int .i64 q]), .int .u64 0, .int .i64 8]) ∨ ((a ≠ 0) ∧ ((oErr W xs ys a) = 0) ∧ ((ldw xs ys a / 72057594037927936) ≠ 255) ∧ (a / 4294967296 - 1 = s) ∧ rv = .tup [.agg (mr W xs ys [.int .i64 s, .int .i64 b, .int .i64 l, .int .i64 p, .int .i64 q]), .int .u64 a, .int .i64 0]) ∨ ((a ≠ 0) ∧ ((oErr W xs ys a) = 0) ∧ ((ldw xs ys a / 72057594037927936) ≠ 255) ∧ (¬ (a / 4294967296 - 1 = s)) ∧ ((ldw xs ys (a + 1)) ≠ 0) ∧ (¬ (1 ≤ (ldw xs ys (a + 1)) / 4294967296 ∧ (ldw xs ys (a + 1)) / 4294967296 ≤ 2 ∧ (ldw xs ys (a + 1)) / 4294967296 - 1 = s)) ∧ rv = .tup [.agg (mr W xs ys [.int .i64 s, .int .i64 b, .int .i64 l, .int .i64 p, .int .i64 q]), .int .u64 0, .int .i64 10]) ∨ ((a ≠ 0) ∧ ((oErr W xs ys a) = 0) ∧ ((ldw xs ys a / 72057594037927936) ≠ 255) ∧ (¬ (a / 4294967296 - 1 = s)) ∧ ((ldw xs ys (a + 1)) ≠ 0) ∧ (1 ≤ (ldw xs ys (a + 1)) / 4294967296 ∧ (ldw xs ys (a + 1)) / 4294967296 ≤ 2 ∧ (ldw xs ys (a + 1)) / 4294967296 - 1 = s) ∧ rv = .tup [.agg (mr W xs ys [.int .i64 s, .int .i64 b, .int .i64 l, .int .i64 p, .int .i64 q]), .int .u64 (ldw xs ys (a + 1)), .int .i64 0]) ∨ ((a ≠ 0) ∧ ((oErr W xs ys a) = 0) ∧ ((ldw xs ys a / 72057594037927936) ≠ 255) ∧ (¬ (a / 4294967296 - 1 = s)) ∧ ((ldw xs ys (a + 1)) = 0) ∧ (l - b < (((ldw xs ys a / 4294967296) % 16777216) + 2)) ∧ rv = .tup [.agg (mr W xs ys [.int .i64 s, .int .i64 b, .int .i64 l, .int .i64 p, .int .i64 q]), .int .u64 0, .int .i64 4]) ∨ ((a ≠ 0) ∧ ((oErr W xs ys a) = 0) ∧ ((ldw xs ys a / 72057594037927936) ≠ 255) ∧ (¬ (a / 4294967296 - 1 = s)) ∧ ((ldw xs ys (a + 1)) = 0) ∧ ((((ldw xs ys a / 4294967296) % 16777216) + 2) ≤ l - b) ∧ rv = .tup [.agg (mr W (tX xs ys a ((s + 1) * 4294967296 + b) (((ldw xs ys a / 4294967296) % 16777216) + 2)) (tY xs ys a ((s + 1) * 4294967296 + b) (((ldw xs ys a / 4294967296) % 16777216) + 2)) [.int .i64 s, .int .i64 (b + (((ldw xs ys a / 4294967296) % 16777216) + 2)), .int .i64 l, .int .i64 p, .int .i64 q]), .int .u64 ((s + 1) * 4294967296 + b), .int .i64 0])) := by
 refine pub_of TT_ok Try.func12 rfl (by decide) (Nat.le_of_ble_eq_true (by kernel_rfl)) (by kernel_rfl) ?_
 refine rg [] 4 ⟨[(6, .i 0), (5, .u 0), (4, .p 1), (2, .p 0), (1, .u a)], [(1, .cells [.i 0, .nils, .nils, .i 0, .i 0, .i 0, .i 0, .i 0] 31), (0, .cells (mr W xs ys [.i s, .i b, .i l, .i p, .i q]) 31)], 2⟩ [] trivial ?_
 refine xw_seq ?_
 refine rg [(1, .bool (a == 0))] 2 ⟨[(20, .bool (a == 0)), (6, .i 0), (5, .u 0), (4, .p 1), (2, .p 0), (1, .u a)], [(1, .cells [.i 0, .nils, .nils, .i 0, .i 0, .i 0, .i 0, .i 0] 31), (0, .cells (mr W xs ys [.i s, .i b, .i l, .i p, .i q]) 31)], 2⟩ [(a == 0) = (a == 0)] ⟨rfl, trivial⟩ ?_
 refine xw_cond (b := (a == 0)) (by kernel_rfl) (fun h0 => ?_) (fun h0 => ?_)
 ·
  replace h0 : a = 0 := eq_of_beq h0
  refine rg [] 4 ⟨[(6, .i 0), (5, .u 0), (4, .p 1), (2, .p 0), (1, .u a)], [(1, .cells (mr W xs ys [.i s, .i b, .i l, .i p, .i q]) 31), (0, .cells (mr W xs ys [.i s, .i b, .i l, .i p, .i q]) 31)], 2⟩ [True, True] ⟨trivial, trivial, trivial⟩ ?_
  refine xw_ret ?_
  refine an_ret ?_
  exact bs (.tup [.agg (mr W xs ys [.i s, .i b, .i l, .i p, .i q]), .u 0, .i 0]) (Or.inl <| ⟨(by omega), rfl⟩)
 ·
  replace h0 : a ≠ 0 := ne_of_beq_false h0
  refine xw_skip ?_
  refine an ?_
  refine xw_seq ?_
  refine reg ?_
  refine rk [] 3 0 ⟨[(25, .u a), (24, .agg (mm W xs ys)), (6, .i 0), (5, .u 0), (4, .p 1), (2, .p 0), (1, .u a)], [(1, .cells [.i 0, .nils, .nils, .i 0, .i 0, .i 0, .i 0, .i 0] 31), (0, .cells (mr W xs ys [.i s, .i b, .i l, .i p, .i q]) 31)], 2⟩ [True] ⟨trivial, trivial⟩ ?_
  by_cases h1 : ((oErr W xs ys a) = 0) ∧ ((ldw xs ys a / 72057594037927936) ≠ 255)
  ·
   refine pc (rotwin_1 W xs ys a ‹_› ‹_› ‹_› ‹_› ‹_› ‹_› (by omega) (by omega)) ?_
   obtain ⟨h2, h3, h4⟩ := oErr_ok W xs ys a (by omega)
   have h5 : 0 ≤ (ldw xs ys (a + 1)) ∧ (ldw xs ys (a + 1)) ≤ 18446744073709551615 := ldw_ok xs ys (a + 1) ‹_› ‹_›
   have h6 : 1 ≤ (a + 1) / 4294967296 ∧ (a + 1) / 4294967296 ≤ 2 ∧ (a + 1) % 4294967296 < W := by omega
   refine rk [] 5 4 ⟨[(8, .i 0), (7, .u (ldw xs ys (a + 1))), (6, .i 0), (5, .u 0), (4, .p 1), (2, .p 0), (1, .u a)], [(1, .cells [.i 0, .nils, .nils, .i 0, .i 0, .i 0, .i 0, .i 0] 31), (0, .cells (mr W xs ys [.i s, .i b, .i l, .i p, .i q]) 31)], 2⟩ [] trivial ?_
   refine en ?_
   refine an ?_
   refine xw_seq ?_
   refine rg [(1, .f)] 2 ⟨[(30, .f), (8, .i 0), (7, .u (ldw xs ys (a + 1))), (6, .i 0), (5, .u 0), (4, .p 1), (2, .p 0), (1, .u a)], [(1, .cells [.i 0, .nils, .nils, .i 0, .i 0, .i 0, .i 0, .i 0] 31), (0, .cells (mr W xs ys [.i s, .i b, .i l, .i p, .i q]) 31)], 2⟩ [(0 != 0) = false] ⟨bne_eq_false_iff_eq.2 (by omega), trivial⟩ ?_
   refine cf ?_
   refine xw_skip ?_
   refine an ?_
   refine xw_seq ?_
   refine reg ?_
   refine rk [] 2 0 ⟨[(34, .u a), (33, .agg (mr W xs ys [.i s, .i b, .i l, .i p, .i q])), (7, .u (ldw xs ys (a + 1))), (6, .i 0), (5, .u 0), (4, .p 1), (2, .p 0), (1, .u a)], [(1, .cells [.i 0, .nils, .nils, .i 0, .i 0, .i 0, .i 0, .i 0] 31), (0, .cells (mr W xs ys [.i s, .i b, .i l, .i p, .i q]) 31)], 2⟩ [True] ⟨trivial, trivial⟩ ?_
   by_cases h7 : 1 ≤ a / 4294967296 ∧ a / 4294967296 ≤ 2 ∧ a / 4294967296 - 1 = s
   ·
    refine pc (rtover_1 W xs ys s b l p q a ‹_› ‹_› ‹_› ‹_› ‹_› ‹_› ‹_› ‹_› ‹_› (by omega)) ?_
    refine rk [] 1 3 ⟨[(9, .t), (7, .u (ldw xs ys (a + 1))), (6, .i 0), (5, .u 0), (4, .p 1), (2, .p 0), (1, .u a)], [(1, .cells [.i 0, .nils, .nils, .i 0, .i 0, .i 0, .i 0, .i 0] 31), (0, .cells (mr W xs ys [.i s, .i b, .i l, .i p, .i q]) 31)], 2⟩ [] trivial ?_
    refine en ?_
    refine an ?_
    refine xw_seq ?_
    refine rg [] 1 ⟨[(36, .t), (7, .u (ldw xs ys (a + 1))), (6, .i 0), (5, .u 0), (4, .p 1), (2, .p 0), (1, .u a)], [(1, .cells [.i 0, .nils, .nils, .i 0, .i 0, .i 0, .i 0, .i 0] 31), (0, .cells (mr W xs ys [.i s, .i b, .i l, .i p, .i q]) 31)], 2⟩ [] trivial ?_
    refine ct ?_
    refine rg [] 5 ⟨[(6, .i 0), (5, .u a), (7, .u (ldw xs ys (a + 1))), (4, .p 1), (2, .p 0), (1, .u a)], [(1, .cells (mr W xs ys [.i s, .i b, .i l, .i p, .i q]) 31), (0, .cells (mr W xs ys [.i s, .i b, .i l, .i p, .i q]) 31)], 2⟩ [True, True] ⟨trivial, trivial, trivial⟩ ?_
    refine xw_ret ?_
    refine an_ret ?_
    exact bs (.tup [.agg (mr W xs ys [.i s, .i b, .i l, .i p, .i q]), .u a, .i 0]) (Or.inr <| Or.inr <| Or.inr <| Or.inl <| ⟨(by omega), (by omega), (by omega), (by omega), rfl⟩)
   ·
    refine pc (rtover_2 W xs ys s b l p q a ‹_› ‹_› ‹_› ‹_› ‹_› ‹_› ‹_› ‹_› ‹_› (by omega)) ?_
    refine rk [] 1 3 ⟨[(9, .f), (7, .u (ldw xs ys (a + 1))), (6, .i 0), (5, .u 0), (4, .p 1), (2, .p 0), (1, .u a)], [(1, .cells [.i 0, .nils, .nils, .i 0, .i 0, .i 0, .i 0, .i 0] 31), (0, .cells (mr W xs ys [.i s, .i b, .i l, .i p, .i q]) 31)], 2⟩ [] trivial ?_
    refine en ?_
    refine an ?_
    refine xw_seq ?_
    refine rg [] 1 ⟨[(36, .f), (7, .u (ldw xs ys (a + 1))), (6, .i 0), (5, .u 0), (4, .p 1), (2, .p 0), (1, .u a)], [(1, .cells [.i 0, .nils, .nils, .i 0, .i 0, .i 0, .i 0, .i 0] 31), (0, .cells (mr W xs ys [.i s, .i b, .i l, .i p, .i q]) 31)], 2⟩ [] trivial ?_
    refine cf ?_
    refine xw_skip ?_
    refine an ?_
    refine xw_seq ?_
    refine reg ?_
    refine rk [] 2 0 ⟨[(40, .u (ldw xs ys (a + 1))), (39, .agg (mr W xs ys [.i s, .i b, .i l, .i p, .i q])), (7, .u (ldw xs ys (a + 1))), (6, .i 0), (5, .u 0), (4, .p 1), (2, .p 0), (1, .u a)], [(1, .cells [.i 0, .nils, .nils, .i 0, .i 0, .i 0, .i 0, .i 0] 31), (0, .cells (mr W xs ys [.i s, .i b, .i l, .i p, .i q]) 31)], 2⟩ [True] ⟨trivial, trivial⟩ ?_
    by_cases h8 : 1 ≤ (ldw xs ys (a + 1)) / 4294967296 ∧ (ldw xs ys (a + 1)) / 4294967296 ≤ 2 ∧ (ldw xs ys (a + 1)) / 4294967296 - 1 = s
    ·
     refine pc (rtover_1 W xs ys s b l p q (ldw xs ys (a + 1)) ‹_› ‹_› ‹_› ‹_› ‹_› ‹_› ‹_› ‹_› ‹_› (by omega)) ?_
     refine rk [] 1 3 ⟨[(10, .t), (7, .u (ldw xs ys (a + 1))), (6, .i 0), (5, .u 0), (4, .p 1), (2, .p 0), (1, .u a)], [(1, .cells [.i 0, .nils, .nils, .i 0, .i 0, .i 0, .i 0, .i 0] 31), (0, .cells (mr W xs ys [.i s, .i b, .i l, .i p, .i q]) 31)], 2⟩ [] trivial ?_
     refine en ?_
     refine an ?_
     refine xw_seq ?_
     refine rg [(1, .t)] 6 ⟨[(47, .f), (7, .u (ldw xs ys (a + 1))), (6, .i 0), (5, .u 0), (4, .p 1), (2, .p 0), (1, .u a)], [(1, .cells [.i 0, .nils, .nils, .i 0, .i 0, .i 0, .i 0, .i 0] 31), (0, .cells (mr W xs ys [.i s, .i b, .i l, .i p, .i q]) 31)], 2⟩ [((ldw xs ys (a + 1)) != 0) = true, True] ⟨bne_iff_ne.2 (by omega), trivial, trivial⟩ ?_
     refine cf ?_
     refine xw_skip ?_
     refine an ?_
     refine xw_seq ?_
     refine rg [(1, .t)] 2 ⟨[(50, .t), (7, .u (ldw xs ys (a + 1))), (6, .i 0), (5, .u 0), (4, .p 1), (2, .p 0), (1, .u a)], [(1, .cells [.i 0, .nils, .nils, .i 0, .i 0, .i 0, .i 0, .i 0] 31), (0, .cells (mr W xs ys [.i s, .i b, .i l, .i p, .i q]) 31)], 2⟩ [((ldw xs ys (a + 1)) != 0) = true] ⟨bne_iff_ne.2 (by omega), trivial⟩ ?_
     refine ct ?_
     refine rg [] 5 ⟨[(6, .i 0), (5, .u (ldw xs ys (a + 1))), (4, .p 1), (2, .p 0), (1, .u a)], [(1, .cells (mr W xs ys [.i s, .i b, .i l, .i p, .i q]) 31), (0, .cells (mr W xs ys [.i s, .i b, .i l, .i p, .i q]) 31)], 2⟩ [True, True] ⟨trivial, trivial, trivial⟩ ?_
     refine xw_ret ?_
     refine an_ret ?_
     exact bs (.tup [.agg (mr W xs ys [.i s, .i b, .i l, .i p, .i q]), .u (ldw xs ys (a + 1)), .i 0]) (Or.inr <| Or.inr <| Or.inr <| Or.inr <| Or.inr <| Or.inl <| ⟨(by omega), (by omega), (by omega), (by omega), (by omega), (by omega), rfl⟩)
    ·
     refine pc (rtover_2 W xs ys s b l p q (ldw xs ys (a + 1)) ‹_› ‹_› ‹_› ‹_› ‹_› ‹_› ‹_› ‹_› ‹_› (by omega)) ?_
     refine rk [] 1 3 ⟨[(10, .f), (7, .u (ldw xs ys (a + 1))), (6, .i 0), (5, .u 0), (4, .p 1), (2, .p 0), (1, .u a)], [(1, .cells [.i 0, .nils, .nils, .i 0, .i 0, .i 0, .i 0, .i 0] 31), (0, .cells (mr W xs ys [.i s, .i b, .i l, .i p, .i q]) 31)], 2⟩ [] trivial ?_
     refine en ?_
     refine an ?_
     refine xw_seq ?_
     refine xw_seq ?_
     refine reg ?_
     refine rk [(1, .bool ((ldw xs ys (a + 1)) != 0))] 3 0 ⟨[(44, .bool ((ldw xs ys (a + 1)) != 0)), (10, .f), (7, .u (ldw xs ys (a + 1))), (6, .i 0), (5, .u 0), (4, .p 1), (2, .p 0), (1, .u a)], [(1, .cells [.i 0, .nils, .nils, .i 0, .i 0, .i 0, .i 0, .i 0] 31), (0, .cells (mr W xs ys [.i s, .i b, .i l, .i p, .i q]) 31)], 2⟩ [((ldw xs ys (a + 1)) != 0) = ((ldw xs ys (a + 1)) != 0)] ⟨rfl, trivial⟩ ?_
     refine splitr 44 (x := ((ldw xs ys (a + 1)) != 0)) (by kernel_rfl) (fun h9 => ?_) (fun h9 => ?_)
     ·
      replace h9 : (ldw xs ys (a + 1)) ≠ 0 := bne_iff_ne.1 h9
      refine rk [] 3 3 ⟨[(47, .t), (7, .u (ldw xs ys (a + 1))), (6, .i 0), (5, .u 0), (4, .p 1), (2, .p 0), (1, .u a)], [(1, .cells [.i 0, .nils, .nils, .i 0, .i 0, .i 0, .i 0, .i 0] 31), (0, .cells (mr W xs ys [.i s, .i b, .i l, .i p, .i q]) 31)], 2⟩ [True] ⟨trivial, trivial⟩ ?_
      refine en ?_
      refine an ?_
      refine ct ?_
      refine rg [] 4 ⟨[(6, .i 10), (5, .u 0), (7, .u (ldw xs ys (a + 1))), (4, .p 1), (2, .p 0), (1, .u a)], [(1, .cells (mr W xs ys [.i s, .i b, .i l, .i p, .i q]) 31), (0, .cells (mr W xs ys [.i s, .i b, .i l, .i p, .i q]) 31)], 2⟩ [True, True] ⟨trivial, trivial, trivial⟩ ?_
      refine xw_ret ?_
      refine an_ret ?_
      exact bs (.tup [.agg (mr W xs ys [.i s, .i b, .i l, .i p, .i q]), .u 0, .i 10]) (Or.inr <| Or.inr <| Or.inr <| Or.inr <| Or.inl <| ⟨(by omega), (by omega), (by omega), (by omega), (by omega), (by omega), rfl⟩)
     ·
      replace h9 : (ldw xs ys (a + 1)) = 0 := bne_eq_false_iff_eq.1 h9
      refine rk [] 3 3 ⟨[(47, .f), (7, .u (ldw xs ys (a + 1))), (6, .i 0), (5, .u 0), (4, .p 1), (2, .p 0), (1, .u a)], [(1, .cells [.i 0, .nils, .nils, .i 0, .i 0, .i 0, .i 0, .i 0] 31), (0, .cells (mr W xs ys [.i s, .i b, .i l, .i p, .i q]) 31)], 2⟩ [True] ⟨trivial, trivial⟩ ?_
      refine en ?_
      refine an ?_
      refine cf ?_
      refine xw_skip ?_
      refine an ?_
      refine xw_seq ?_
      refine rg [(1, .f)] 2 ⟨[(50, .f), (7, .u (ldw xs ys (a + 1))), (6, .i 0), (5, .u 0), (4, .p 1), (2, .p 0), (1, .u a)], [(1, .cells [.i 0, .nils, .nils, .i 0, .i 0, .i 0, .i 0, .i 0] 31), (0, .cells (mr W xs ys [.i s, .i b, .i l, .i p, .i q]) 31)], 2⟩ [((ldw xs ys (a + 1)) != 0) = false] ⟨bne_eq_false_iff_eq.2 (by omega), trivial⟩ ?_
      refine cf ?_
      refine xw_skip ?_
      refine an ?_
      refine xw_seq ?_
      refine reg ?_
      refine rk [] 3 0 ⟨[(56, .u a), (55, .agg (mm W xs ys)), (6, .i 0), (5, .u 0), (4, .p 1), (2, .p 0), (1, .u a)], [(1, .cells [.i 0, .nils, .nils, .i 0, .i 0, .i 0, .i 0, .i 0] 31), (0, .cells (mr W xs ys [.i s, .i b, .i l, .i p, .i q]) 31)], 2⟩ [True] ⟨trivial, trivial⟩ ?_
      refine pc (roat_1 W xs ys a ‹_› ‹_› ‹_› ‹_› ‹_› ‹_› (by omega)) ?_
      refine rk [] 6 4 ⟨[(11, .p 2), (6, .i 0), (5, .u 0), (4, .p 1), (2, .p 0), (1, .u a)], [(2, .cells [.i (hT xs ys a), .i (hL xs ys a), .u (hM xs ys a)] 37), (1, .cells [.i 0, .nils, .nils, .i 0, .i 0, .i 0, .i 0, .i 0] 31), (0, .cells (mr W xs ys [.i s, .i b, .i l, .i p, .i q]) 31)], 3⟩ [True] ⟨trivial, trivial⟩ ?_
      refine en ?_
      refine an ?_
      refine xw_seq ?_
      refine reg ?_
      refine rk [] 1 0 ⟨[(60, .agg [.i (hT xs ys a), .i (hL xs ys a), .u (hM xs ys a)]), (6, .i 0), (5, .u 0), (4, .p 1), (2, .p 0), (1, .u a)], [(1, .cells [.i 0, .nils, .nils, .i 0, .i 0, .i 0, .i 0, .i 0] 31), (0, .cells (mr W xs ys [.i s, .i b, .i l, .i p, .i q]) 31)], 3⟩ [True] ⟨trivial, trivial⟩ ?_
      refine pc (rhwords_2 (ldw xs ys a / 72057594037927936) ((ldw xs ys a / 4294967296) % 16777216) (ldw xs ys a % 4294967296) (by omega) (by omega) (by omega) (by omega) (by omega)) ?_
      refine rk [] 1 2 ⟨[(13, .i ((hL xs ys a) + 2)), (6, .i 0), (5, .u 0), (4, .p 1), (2, .p 0), (1, .u a)], [(1, .cells [.i 0, .nils, .nils, .i 0, .i 0, .i 0, .i 0, .i 0] 31), (0, .cells (mr W xs ys [.i s, .i b, .i l, .i p, .i q]) 31)], 3⟩ [] trivial ?_
      refine en ?_
      refine an ?_
      refine xw_seq ?_
      refine reg ?_
      refine rk [] 3 0 ⟨[(65, .i ((hL xs ys a) + 2)), (64, .agg [.i s, .i b, .i l]), (13, .i ((hL xs ys a) + 2)), (6, .i 0), (5, .u 0), (4, .p 1), (2, .p 0), (1, .u a)], [(1, .cells [.i 0, .nils, .nils, .i 0, .i 0, .i 0, .i 0, .i 0] 31), (0, .cells (mr W xs ys [.i s, .i b, .i l, .i p, .i q]) 31)], 3⟩ [True] ⟨trivial, trivial⟩ ?_
      by_cases h10 : (((ldw xs ys a / 4294967296) % 16777216) + 2) ≤ l - b
      ·
       refine pc (rtake_1 s b l (((ldw xs ys a / 4294967296) % 16777216) + 2) ‹_› (by omega) ‹_›) ?_
       refine rk [] 8 4 ⟨[(16, .i 0), (15, .u ((s + 1) * 4294967296 + b)), (14, .p 3), (13, .i ((hL xs ys a) + 2)), (6, .i 0), (5, .u 0), (4, .p 1), (2, .p 0), (1, .u a)], [(3, .cells [.i s, .i (b + ((hL xs ys a) + 2)), .i l] 27), (1, .cells [.i 0, .nils, .nils, .i 0, .i 0, .i 0, .i 0, .i 0] 31), (0, .cells (mr W xs ys [.i s, .i b, .i l, .i p, .i q]) 31)], 4⟩ [True] ⟨trivial, trivial⟩ ?_
       refine en ?_
       refine an ?_
       refine xw_seq ?_
       refine rg [(1, .f)] 2 ⟨[(71, .f), (15, .u ((s + 1) * 4294967296 + b)), (14, .p 3), (13, .i ((hL xs ys a) + 2)), (6, .i 0), (5, .u 0), (4, .p 1), (2, .p 0), (1, .u a)], [(3, .cells [.i s, .i (b + ((hL xs ys a) + 2)), .i l] 27), (1, .cells [.i 0, .nils, .nils, .i 0, .i 0, .i 0, .i 0, .i 0] 31), (0, .cells (mr W xs ys [.i s, .i b, .i l, .i p, .i q]) 31)], 4⟩ [(0 != 0) = false] ⟨bne_eq_false_iff_eq.2 (by omega), trivial⟩ ?_
       refine cf ?_
       refine xw_skip ?_
       refine an ?_
       refine xw_seq ?_
       refine reg ?_
       refine rk [] 5 0 ⟨[(78, .i ((hL xs ys a) + 2)), (77, .u ((s + 1) * 4294967296 + b)), (76, .u a), (75, .agg (mm W xs ys)), (15, .u ((s + 1) * 4294967296 + b)), (14, .p 3), (6, .i 0), (5, .u 0), (4, .p 1), (2, .p 0), (1, .u a)], [(3, .cells [.i s, .i (b + ((hL xs ys a) + 2)), .i l] 27), (1, .cells [.i 0, .nils, .nils, .i 0, .i 0, .i 0, .i 0, .i 0] 31), (0, .cells (mr W xs ys [.i s, .i b, .i l, .i p, .i q]) 31)], 4⟩ [True] ⟨trivial, trivial⟩ ?_
       refine pc (rmove_1 W xs ys a ((s + 1) * 4294967296 + b) (((ldw xs ys a / 4294967296) % 16777216) + 2) ‹_› ‹_› ‹_› ‹_› ‹_› ‹_› (by omega) (by omega) (by omega) (by omega)) ?_
       obtain ⟨h11, h12, h13, h14⟩ := mv_ok W xs ys a ((s + 1) * 4294967296 + b) (((ldw xs ys a / 4294967296) % 16777216) + 2) ‹_› ‹_› ‹_› ‹_› (by omega) (by omega) (by omega)
       refine rk [] 6 6 ⟨[(17, .p 4), (15, .u ((s + 1) * 4294967296 + b)), (14, .p 3), (6, .i 0), (5, .u 0), (4, .p 1), (2, .p 0), (1, .u a)], [(4, .cells (mm W (mvx xs ys a ((s + 1) * 4294967296 + b) ((hL xs ys a) + 2)) (mvy xs ys a ((s + 1) * 4294967296 + b) ((hL xs ys a) + 2))) 25), (3, .cells [.i s, .i (b + ((hL xs ys a) + 2)), .i l] 27), (1, .cells [.i 0, .nils, .nils, .i 0, .i 0, .i 0, .i 0, .i 0] 31), (0, .cells (mr W xs ys [.i s, .i b, .i l, .i p, .i q]) 31)], 5⟩ [True] ⟨trivial, trivial⟩ ?_
       refine en ?_
       refine an ?_
       refine xw_seq ?_
       refine reg ?_
       refine rk [(2, .i (((s + 1) * 4294967296 + b) + 1))] 3 0 ⟨[(85, .u (((s + 1) * 4294967296 + b) + 1)), (83, .agg (mm W (mvx xs ys a ((s + 1) * 4294967296 + b) ((hL xs ys a) + 2)) (mvy xs ys a ((s + 1) * 4294967296 + b) ((hL xs ys a) + 2)))), (17, .p 4), (15, .u ((s + 1) * 4294967296 + b)), (14, .p 3), (6, .i 0), (5, .u 0), (4, .p 1), (2, .p 0), (1, .u a)], [(4, .cells (mm W (mvx xs ys a ((s + 1) * 4294967296 + b) ((hL xs ys a) + 2)) (mvy xs ys a ((s + 1) * 4294967296 + b) ((hL xs ys a) + 2))) 25), (3, .cells [.i s, .i (b + ((hL xs ys a) + 2)), .i l] 27), (1, .cells [.i 0, .nils, .nils, .i 0, .i 0, .i 0, .i 0, .i 0] 31), (0, .cells (mr W xs ys [.i s, .i b, .i l, .i p, .i q]) 31)], 5⟩ [True, IntKind.u64.wrap (((s + 1) * 4294967296 + b) + 1) = (((s + 1) * 4294967296 + b) + 1)] ⟨trivial, u64_eq (by omega) (by omega), trivial⟩ ?_
       refine pc (rstore_1 W (mvx xs ys a ((s + 1) * 4294967296 + b) (((ldw xs ys a / 4294967296) % 16777216) + 2)) (mvy xs ys a ((s + 1) * 4294967296 + b) (((ldw xs ys a / 4294967296) % 16777216) + 2)) (((s + 1) * 4294967296 + b) + 1) 0 ‹_› ‹_› ‹_› ‹_› ‹_› (by omega) (by omega) (by omega)) ?_
       obtain ⟨h15, h16, h17, h18⟩ := stx_ok W (mvx xs ys a ((s + 1) * 4294967296 + b) (((ldw xs ys a / 4294967296) % 16777216) + 2)) (mvy xs ys a ((s + 1) * 4294967296 + b) (((ldw xs ys a / 4294967296) % 16777216) + 2)) (((s + 1) * 4294967296 + b) + 1) 0 ‹_› ‹_› ‹_› ‹_› (by omega)
       refine rk [] 4 4 ⟨[(17, .p 4), (15, .u ((s + 1) * 4294967296 + b)), (14, .p 3), (6, .i 0), (5, .u 0), (4, .p 1), (2, .p 0), (1, .u a)], [(4, .cells (mm W (stx (mvx xs ys a ((s + 1) * 4294967296 + b) ((hL xs ys a) + 2)) (((s + 1) * 4294967296 + b) + 1) 0) (sty (mvy xs ys a ((s + 1) * 4294967296 + b) ((hL xs ys a) + 2)) (((s + 1) * 4294967296 + b) + 1) 0)) 25), (3, .cells [.i s, .i (b + ((hL xs ys a) + 2)), .i l] 27), (1, .cells [.i 0, .nils, .nils, .i 0, .i 0, .i 0, .i 0, .i 0] 31), (0, .cells (mr W xs ys [.i s, .i b, .i l, .i p, .i q]) 31)], 5⟩ [True] ⟨trivial, trivial⟩ ?_
       refine en ?_
       refine an ?_
       refine xw_seq ?_
       refine reg ?_
       refine rk [(2, .i (a + 1))] 4 0 ⟨[(93, .u ((s + 1) * 4294967296 + b)), (92, .u (a + 1)), (90, .agg (mm W (stx (mvx xs ys a ((s + 1) * 4294967296 + b) ((hL xs ys a) + 2)) (((s + 1) * 4294967296 + b) + 1) 0) (sty (mvy xs ys a ((s + 1) * 4294967296 + b) ((hL xs ys a) + 2)) (((s + 1) * 4294967296 + b) + 1) 0))), (17, .p 4), (15, .u ((s + 1) * 4294967296 + b)), (14, .p 3), (6, .i 0), (5, .u 0), (4, .p 1), (2, .p 0)], [(4, .cells (mm W (stx (mvx xs ys a ((s + 1) * 4294967296 + b) ((hL xs ys a) + 2)) (((s + 1) * 4294967296 + b) + 1) 0) (sty (mvy xs ys a ((s + 1) * 4294967296 + b) ((hL xs ys a) + 2)) (((s + 1) * 4294967296 + b) + 1) 0)) 25), (3, .cells [.i s, .i (b + ((hL xs ys a) + 2)), .i l] 27), (1, .cells [.i 0, .nils, .nils, .i 0, .i 0, .i 0, .i 0, .i 0] 31), (0, .cells (mr W xs ys [.i s, .i b, .i l, .i p, .i q]) 31)], 5⟩ [True, IntKind.u64.wrap (a + 1) = (a + 1)] ⟨trivial, u64_eq (by omega) (by omega), trivial⟩ ?_
       refine pc (rstore_1 W (stx (mvx xs ys a ((s + 1) * 4294967296 + b) (((ldw xs ys a / 4294967296) % 16777216) + 2)) (((s + 1) * 4294967296 + b) + 1) 0) (sty (mvy xs ys a ((s + 1) * 4294967296 + b) (((ldw xs ys a / 4294967296) % 16777216) + 2)) (((s + 1) * 4294967296 + b) + 1) 0) (a + 1) ((s + 1) * 4294967296 + b) ‹_› ‹_› ‹_› ‹_› ‹_› (by omega) (by omega) (by omega)) ?_
       obtain ⟨h19, h20, h21, h22⟩ := stx_ok W (stx (mvx xs ys a ((s + 1) * 4294967296 + b) (((ldw xs ys a / 4294967296) % 16777216) + 2)) (((s + 1) * 4294967296 + b) + 1) 0) (sty (mvy xs ys a ((s + 1) * 4294967296 + b) (((ldw xs ys a / 4294967296) % 16777216) + 2)) (((s + 1) * 4294967296 + b) + 1) 0) (a + 1) ((s + 1) * 4294967296 + b) ‹_› ‹_› ‹_› ‹_› (by omega)
       refine rk [] 4 5 ⟨[(17, .p 4), (15, .u ((s + 1) * 4294967296 + b)), (14, .p 3), (6, .i 0), (5, .u 0), (4, .p 1), (2, .p 0)], [(4, .cells (mm W (stx (stx (mvx xs ys a ((s + 1) * 4294967296 + b) ((hL xs ys a) + 2)) (((s + 1) * 4294967296 + b) + 1) 0) (a + 1) ((s + 1) * 4294967296 + b)) (sty (sty (mvy xs ys a ((s + 1) * 4294967296 + b) ((hL xs ys a) + 2)) (((s + 1) * 4294967296 + b) + 1) 0) (a + 1) ((s + 1) * 4294967296 + b))) 25), (3, .cells [.i s, .i (b + ((hL xs ys a) + 2)), .i l] 27), (1, .cells [.i 0, .nils, .nils, .i 0, .i 0, .i 0, .i 0, .i 0] 31), (0, .cells (mr W xs ys [.i s, .i b, .i l, .i p, .i q]) 31)], 5⟩ [True] ⟨trivial, trivial⟩ ?_
       refine en ?_
       refine an ?_
       refine rg [] 9 ⟨[(6, .i 0), (5, .u ((s + 1) * 4294967296 + b)), (4, .p 1)], [(1, .cells (mr W (stx (stx (mvx xs ys a ((s + 1) * 4294967296 + b) ((hL xs ys a) + 2)) (((s + 1) * 4294967296 + b) + 1) 0) (a + 1) ((s + 1) * 4294967296 + b)) (sty (sty (mvy xs ys a ((s + 1) * 4294967296 + b) ((hL xs ys a) + 2)) (((s + 1) * 4294967296 + b) + 1) 0) (a + 1) ((s + 1) * 4294967296 + b)) [.i s, .i (b + ((hL xs ys a) + 2)), .i l, .i p, .i q]) 31)], 5⟩ [True, True, True, True] ⟨trivial, trivial, trivial, trivial, trivial⟩ ?_
       refine xw_ret ?_
       exact bk_ret (.tup [.agg (mr W (stx (stx (mvx xs ys a ((s + 1) * 4294967296 + b) (((ldw xs ys a / 4294967296) % 16777216) + 2)) (((s + 1) * 4294967296 + b) + 1) 0) (a + 1) ((s + 1) * 4294967296 + b)) (sty (sty (mvy xs ys a ((s + 1) * 4294967296 + b) (((ldw xs ys a / 4294967296) % 16777216) + 2)) (((s + 1) * 4294967296 + b) + 1) 0) (a + 1) ((s + 1) * 4294967296 + b)) [.i s, .i (b + (((ldw xs ys a / 4294967296) % 16777216) + 2)), .i l, .i p, .i q]), .u ((s + 1) * 4294967296 + b), .i 0]) (.tup [.agg (mr W (stx (stx (mvx xs ys a ((s + 1) * 4294967296 + b) (((ldw xs ys a / 4294967296) % 16777216) + 2)) (((s + 1) * 4294967296 + b) + 1) 0) (a + 1) ((s + 1) * 4294967296 + b)) (sty (sty (mvy xs ys a ((s + 1) * 4294967296 + b) (((ldw xs ys a / 4294967296) % 16777216) + 2)) (((s + 1) * 4294967296 + b) + 1) 0) (a + 1) ((s + 1) * 4294967296 + b)) [.i s, .i (b + (((ldw xs ys a / 4294967296) % 16777216) + 2)), .i l, .i p, .i q]), .u ((s + 1) * 4294967296 + b), .i 0]) (.tup [.agg (mr W (tX xs ys a ((s + 1) * 4294967296 + b) (((ldw xs ys a / 4294967296) % 16777216) + 2)) (tY xs ys a ((s + 1) * 4294967296 + b) (((ldw xs ys a / 4294967296) % 16777216) + 2)) [.i s, .i (b + (((ldw xs ys a / 4294967296) % 16777216) + 2)), .i l, .i p, .i q]), .u ((s + 1) * 4294967296 + b), .i 0]) (by kernel_rfl) (by kernel_rfl) (wkd [(W : Int) = W, (false = true → false = true), (m64 (stx (stx (mvx xs ys a ((s + 1) * 4294967296 + b) (((ldw xs ys a / 4294967296) % 16777216) + 2)) (((s + 1) * 4294967296 + b) + 1) 0) (a + 1) ((s + 1) * 4294967296 + b))) = (m64 (tX xs ys a ((s + 1) * 4294967296 + b) (((ldw xs ys a / 4294967296) % 16777216) + 2))), (false = true → false = true), (m64 (sty (sty (mvy xs ys a ((s + 1) * 4294967296 + b) (((ldw xs ys a / 4294967296) % 16777216) + 2)) (((s + 1) * 4294967296 + b) + 1) 0) (a + 1) ((s + 1) * 4294967296 + b))) = (m64 (tY xs ys a ((s + 1) * 4294967296 + b) (((ldw xs ys a / 4294967296) % 16777216) + 2))), (s : Int) = s, ((b + (((ldw xs ys a / 4294967296) % 16777216) + 2)) : Int) = (b + (((ldw xs ys a / 4294967296) % 16777216) + 2)), (l : Int) = l, (p : Int) = p, (q : Int) = q, (((s + 1) * 4294967296 + b) : Int) = ((s + 1) * 4294967296 + b), (0 : Int) = 0] (by kernel_rfl) ⟨rfl, id, (by first | rfl | omega), id, (by first | rfl | omega), rfl, rfl, rfl, rfl, rfl, rfl, rfl, trivial⟩) (Or.inr <| Or.inr <| Or.inr <| Or.inr <| Or.inr <| Or.inr <| Or.inr <| ⟨(by omega), (by omega), (by omega), (by omega), (by omega), (by omega), rfl⟩)
      ·
       refine pc (rtake_2 s b l (((ldw xs ys a / 4294967296) % 16777216) + 2) ‹_› (by omega) (by omega)) ?_
       refine rk [] 8 4 ⟨[(16, .i 4), (15, .u 0), (14, .p 3), (13, .i ((hL xs ys a) + 2)), (6, .i 0), (5, .u 0), (4, .p 1), (2, .p 0), (1, .u a)], [(3, .cells [.i s, .i b, .i l] 27), (1, .cells [.i 0, .nils, .nils, .i 0, .i 0, .i 0, .i 0, .i 0] 31), (0, .cells (mr W xs ys [.i s, .i b, .i l, .i p, .i q]) 31)], 4⟩ [True] ⟨trivial, trivial⟩ ?_
       refine en ?_
       refine an ?_
       refine xw_seq ?_
       refine rg [(1, .t)] 2 ⟨[(71, .t), (15, .u 0), (14, .p 3), (13, .i ((hL xs ys a) + 2)), (6, .i 0), (5, .u 0), (4, .p 1), (2, .p 0), (1, .u a)], [(3, .cells [.i s, .i b, .i l] 27), (1, .cells [.i 0, .nils, .nils, .i 0, .i 0, .i 0, .i 0, .i 0] 31), (0, .cells (mr W xs ys [.i s, .i b, .i l, .i p, .i q]) 31)], 4⟩ [(4 != 0) = true] ⟨bne_iff_ne.2 (by omega), trivial⟩ ?_
       refine ct ?_
       refine rg [] 4 ⟨[(6, .i 4), (5, .u 0), (15, .u 0), (14, .p 3), (13, .i ((hL xs ys a) + 2)), (4, .p 1), (2, .p 0), (1, .u a)], [(3, .cells [.i s, .i b, .i l] 27), (1, .cells (mr W xs ys [.i s, .i b, .i l, .i p, .i q]) 31), (0, .cells (mr W xs ys [.i s, .i b, .i l, .i p, .i q]) 31)], 4⟩ [True, True] ⟨trivial, trivial, trivial⟩ ?_
       refine xw_ret ?_
       refine an_ret ?_
       exact bs (.tup [.agg (mr W xs ys [.i s, .i b, .i l, .i p, .i q]), .u 0, .i 4]) (Or.inr <| Or.inr <| Or.inr <| Or.inr <| Or.inr <| Or.inr <| Or.inl <| ⟨(by omega), (by omega), (by omega), (by omega), (by omega), (by omega), rfl⟩)
  ·
   by_cases h2 : ((oErr W xs ys a) = 0) ∧ ((ldw xs ys a / 72057594037927936) = 255)
   ·
    refine pc (rotwin_2 W xs ys a ‹_› ‹_› ‹_› ‹_› ‹_› ‹_› (by omega) (by omega)) ?_
    obtain ⟨h3, h4, h5⟩ := oErr_ok W xs ys a (by omega)
    refine rk [] 5 4 ⟨[(8, .i 8), (7, .u 0), (6, .i 0), (5, .u 0), (4, .p 1), (2, .p 0), (1, .u a)], [(1, .cells [.i 0, .nils, .nils, .i 0, .i 0, .i 0, .i 0, .i 0] 31), (0, .cells (mr W xs ys [.i s, .i b, .i l, .i p, .i q]) 31)], 2⟩ [] trivial ?_
    refine en ?_
    refine an ?_
    refine xw_seq ?_
    refine rg [(1, .t)] 2 ⟨[(30, .t), (8, .i 8), (7, .u 0), (6, .i 0), (5, .u 0), (4, .p 1), (2, .p 0), (1, .u a)], [(1, .cells [.i 0, .nils, .nils, .i 0, .i 0, .i 0, .i 0, .i 0] 31), (0, .cells (mr W xs ys [.i s, .i b, .i l, .i p, .i q]) 31)], 2⟩ [(8 != 0) = true] ⟨bne_iff_ne.2 (by omega), trivial⟩ ?_
    refine ct ?_
    refine rg [] 5 ⟨[(6, .i 8), (5, .u 0), (7, .u 0), (4, .p 1), (2, .p 0), (1, .u a)], [(1, .cells (mr W xs ys [.i s, .i b, .i l, .i p, .i q]) 31), (0, .cells (mr W xs ys [.i s, .i b, .i l, .i p, .i q]) 31)], 2⟩ [True, True] ⟨trivial, trivial, trivial⟩ ?_
    refine xw_ret ?_
    refine an_ret ?_
    exact bs (.tup [.agg (mr W xs ys [.i s, .i b, .i l, .i p, .i q]), .u 0, .i 8]) (Or.inr <| Or.inr <| Or.inl <| ⟨(by omega), (by omega), (by omega), rfl⟩)
   ·
    refine pc (rotwin_3 W xs ys a ‹_› ‹_› ‹_› ‹_› ‹_› ‹_› (by omega)) ?_
    have h3 : (oErr W xs ys a) = 2 ∨ (oErr W xs ys a) = 10 := oErr_no W xs ys a (by omega)
    refine rk [] 5 4 ⟨[(8, .i (oErr W xs ys a)), (7, .u 0), (6, .i 0), (5, .u 0), (4, .p 1), (2, .p 0), (1, .u a)], [(1, .cells [.i 0, .nils, .nils, .i 0, .i 0, .i 0, .i 0, .i 0] 31), (0, .cells (mr W xs ys [.i s, .i b, .i l, .i p, .i q]) 31)], 2⟩ [] trivial ?_
    refine en ?_
    refine an ?_
    refine xw_seq ?_
    refine rg [(1, .t)] 2 ⟨[(30, .t), (8, .i (oErr W xs ys a)), (7, .u 0), (6, .i 0), (5, .u 0), (4, .p 1), (2, .p 0), (1, .u a)], [(1, .cells [.i 0, .nils, .nils, .i 0, .i 0, .i 0, .i 0, .i 0] 31), (0, .cells (mr W xs ys [.i s, .i b, .i l, .i p, .i q]) 31)], 2⟩ [((oErr W xs ys a) != 0) = true] ⟨bne_iff_ne.2 (by omega), trivial⟩ ?_
    refine ct ?_
    refine rg [] 5 ⟨[(6, .i (oErr W xs ys a)), (5, .u 0), (7, .u 0), (4, .p 1), (2, .p 0), (1, .u a)], [(1, .cells (mr W xs ys [.i s, .i b, .i l, .i p, .i q]) 31), (0, .cells (mr W xs ys [.i s, .i b, .i l, .i p, .i q]) 31)], 2⟩ [True, True] ⟨trivial, trivial, trivial⟩ ?_
    refine xw_ret ?_
    refine an_ret ?_
    exact bs (.tup [.agg (mr W xs ys [.i s, .i b, .i l, .i p, .i q]), .u 0, .i (oErr W xs ys a)]) (Or.inr <| Or.inl <| ⟨(by omega), (by omega), rfl⟩)

theorem rtto_1 (W : Int) (xs : List Int) (ys : List Int) (s : Int) (b : Int) (l : Int) (p : Int) (q : Int) (a : Int) (hp0 : 16 ≤ W ∧ W ≤ 4096) (hp1 : (xs.length : Int) = W) (hp2 : (ys.length : Int) = W) (hp3 : U64s xs) (hp4 : U64s ys) (hp5 : (s = 0 ∨ s = 1) ∧ 0 ≤ b ∧ b ≤ l ∧ l ≤ 4096) (hp6 : l = W) (hp7 : 0 ≤ p ∧ p ≤ q ∧ q ≤ b) (hp8 : 0 ≤ a ∧ a ≤ 18446744073709551615) (hp9 : a = 0) : Pub Try.prog 12 [.agg (mr W xs ys [.int .i64 s, .int .i64 b, .int .i64 l, .int .i64 p, .int .i64 q]), .int .u64 a] (fun rv => rv = .tup [.agg (mr W xs ys [.int .i64 s, .int .i64 b, .int .i64 l, .int .i64 p, .int .i64 q]), .int .u64 0, .int .i64 0]) := by
  refine (rtto W xs ys s b l p q a hp0 hp1 hp2 hp3 hp4 hp5 hp6 hp7 hp8).mono ?_
  rintro _ (⟨g0, rfl⟩ | ⟨g0, g1, rfl⟩ | ⟨g0, g1, g2, rfl⟩ | ⟨g0, g1, g2, g3, rfl⟩ | ⟨g0, g1, g2, g3, g4, g5, rfl⟩ | ⟨g0, g1, g2, g3, g4, g5, rfl⟩ | ⟨g0, g1, g2, g3, g4, g5, rfl⟩ | ⟨g0, g1, g2, g3, g4, g5, rfl⟩)
  · rfl
  · exfalso; first | omega | grind
  · exfalso; first | omega | grind
  · exfalso; first | omega | grind
  · exfalso; first | omega | grind
  · exfalso; first | omega | grind
  · exfalso; first | omega | grind
  · exfalso; first | omega | grind

theorem rtto_2 (W : Int) (xs : List Int) (ys : List Int) (s : Int) (b : Int) (l : Int) (p : Int) (q : Int) (a : Int) (hp0 : 16 ≤ W ∧ W ≤ 4096) (hp1 : (xs.length : Int) = W) (hp2 : (ys.length : Int) = W) (hp3 : U64s xs) (hp4 : U64s ys) (hp5 : (s = 0 ∨ s = 1) ∧ 0 ≤ b ∧ b ≤ l ∧ l ≤ 4096) (hp6 : l = W) (hp7 : 0 ≤ p ∧ p ≤ q ∧ q ≤ b) (hp8 : 0 ≤ a ∧ a ≤ 18446744073709551615) (hp9 : a ≠ 0) (hp10 : ¬ ((oErr W xs ys a) = 0)) : Pub Try.prog 12 [.agg (mr W xs ys [.int .i64 s, .int .i64 b, .int .i64 l, .int .i64 p, .int .i64 q]), .int .u64 a] (fun rv => rv = .tup [.agg (mr W xs ys [.int .i64 s, .int .i64 b, .int .i64 l, .int .i64 p, .int .i64 q]), .int .u64 0, .int .i64 (oErr W xs ys a)]) := by
  refine (rtto W xs ys s b l p q a hp0 hp1 hp2 hp3 hp4 hp5 hp6 hp7 hp8).mono ?_
  rintro _ (⟨g0, rfl⟩ | ⟨g0, g1, rfl⟩ | ⟨g0, g1, g2, rfl⟩ | ⟨g0, g1, g2, g3, rfl⟩ | ⟨g0, g1, g2, g3, g4, g5, rfl⟩ | ⟨g0, g1, g2, g3, g4, g5, rfl⟩ | ⟨g0, g1, g2, g3, g4, g5, rfl⟩ | ⟨g0, g1, g2, g3, g4, g5, rfl⟩)
  · exfalso; first | omega | grind
  · rfl
  · exfalso; first | omega | grind
  · exfalso; first | omega | grind
  · exfalso; first | omega | grind
  · exfalso; first | omega | grind
  · exfalso; first | omega | grind
  · exfalso; first | omega | grind

theorem rtto_3 (W : Int) (xs : List Int) (ys : List Int) (s : Int) (b : Int) (l : Int) (p : Int) (q : Int) (a : Int) (hp0 : 16 ≤ W ∧ W ≤ 4096) (hp1 : (xs.length : Int) = W) (hp2 : (ys.length : Int) = W) (hp3 : U64s xs) (hp4 : U64s ys) (hp5 : (s = 0 ∨ s = 1) ∧ 0 ≤ b ∧ b ≤ l ∧ l ≤ 4096) (hp6 : l = W) (hp7 : 0 ≤ p ∧ p ≤ q ∧ q ≤ b) (hp8 : 0 ≤ a ∧ a ≤ 18446744073709551615) (hp9 : a ≠ 0) (hp10 : (oErr W xs ys a) = 0) (hp11 : (ldw xs ys a / 72057594037927936) = 255) : Pub Try.prog 12 [.agg (mr W xs ys [.int .i64 s, .int .i64 b, .int .i64 l, .int .i64 p, .int .i64 q]), .int .u64 a] (fun rv => rv = .tup [.agg (mr W xs ys [.int .i64 s, .int .i64 b, .int .i64 l, .int .i64 p, .int .i64 q]), .int .u64 0, .int .i64 8]) := by
  refine (rtto W xs ys s b l p q a hp0 hp1 hp2 hp3 hp4 hp5 hp6 hp7 hp8).mono ?_
  rintro _ (⟨g0, rfl⟩ | ⟨g0, g1, rfl⟩ | ⟨g0, g1, g2, rfl⟩ | ⟨g0, g1, g2, g3, rfl⟩ | ⟨g0, g1, g2, g3, g4, g5, rfl⟩ | ⟨g0, g1, g2, g3, g4, g5, rfl⟩ | ⟨g0, g1, g2, g3, g4, g5, rfl⟩ | ⟨g0, g1, g2, g3, g4, g5, rfl⟩)
  · exfalso; first | omega | grind
  · exfalso; first | omega | grind
  · rfl
  · exfalso; first | omega | grind
  · exfalso; first | omega | grind
  · exfalso; first | omega | grind
  · exfalso; first | omega | grind
  · exfalso; first | omega | grind

theorem rtto_4 (W : Int) (xs : List Int) (ys : List Int) (s : Int) (b : Int) (l : Int) (p : Int) (q : Int) (a : Int) (hp0 : 16 ≤ W ∧ W ≤ 4096) (hp1 : (xs.length : Int) = W) (hp2 : (ys.length : Int) = W) (hp3 : U64s xs) (hp4 : U64s ys) (hp5 : (s = 0 ∨ s = 1) ∧ 0 ≤ b ∧ b ≤ l ∧ l ≤ 4096) (hp6 : l = W) (hp7 : 0 ≤ p ∧ p ≤ q ∧ q ≤ b) (hp8 : 0 ≤ a ∧ a ≤ 18446744073709551615) (hp9 : a ≠ 0) (hp10 : (oErr W xs ys a) = 0) (hp11 : (ldw xs ys a / 72057594037927936) ≠ 255) (hp12 : a / 4294967296 - 1 = s) : Pub Try.prog 12 [.agg (mr W xs ys [.int .i64 s, .int .i64 b, .int .i64 l, .int .i64 p, .int .i64 q]), .int .u64 a] (fun rv => rv = .tup [.agg (mr W xs ys [.int .i64 s, .int .i64 b, .int .i64 l, .int .i64 p, .int .i64 q]), .int .u64 a, .int .i64 0]) := by
  refine (rtto W xs ys s b l p q a hp0 hp1 hp2 hp3 hp4 hp5 hp6 hp7 hp8).mono ?_
  rintro _ (⟨g0, rfl⟩ | ⟨g0, g1, rfl⟩ | ⟨g0, g1, g2, rfl⟩ | ⟨g0, g1, g2, g3, rfl⟩ | ⟨g0, g1, g2, g3, g4, g5, rfl⟩ | ⟨g0, g1, g2, g3, g4, g5, rfl⟩ | ⟨g0, g1, g2, g3, g4, g5, rfl⟩ | ⟨g0, g1, g2, g3, g4, g5, rfl⟩)
  · exfalso; first | omega | grind
  · exfalso; first | omega | grind
  · exfalso; first | omega | grind
  · rfl
  · exfalso; first | omega | grind
  · exfalso; first | omega | grind
  · exfalso; first | omega | grind
  · exfalso; first | omega | grind

theorem rtto_5 (W : Int) (xs : List Int) (ys : List Int) (s : Int) (b : Int) (l : Int) (p : Int) (q : Int) (a : Int) (hp0 : 16 ≤ W ∧ W ≤ 4096) (hp1 : (xs.length : Int) = W) (hp2 : (ys.length : Int) = W) (hp3 : U64s xs) (hp4 : U64s ys) (hp5 : (s = 0 ∨ s = 1) ∧ 0 ≤ b ∧ b ≤ l ∧ l ≤ 4096) (hp6 : l = W) (hp7 : 0 ≤ p ∧ p ≤ q ∧ q ≤ b) (hp8 : 0 ≤ a ∧ a ≤ 18446744073709551615) (hp9 : a ≠ 0) (hp10 : (oErr W xs ys a) = 0) (hp11 : (ldw xs ys a / 72057594037927936) ≠ 255) (hp12 : ¬ (a / 4294967296 - 1 = s)) (hp13 : (ldw xs ys (a + 1)) ≠ 0) (hp14 : ¬ (1 ≤ (ldw xs ys (a + 1)) / 4294967296 ∧ (ldw xs ys (a + 1)) / 4294967296 ≤ 2 ∧ (ldw xs ys (a + 1)) / 4294967296 - 1 = s)) : Pub Try.prog 12 [.agg (mr W xs ys [.int .i64 s, .int .i64 b, .int .i64 l, .int .i64 p, .int .i64 q]), .int .u64 a] (fun rv => rv = .tup [.agg (mr W xs ys [.int .i64 s, .int .i64 b, .int .i64 l, .int .i64 p, .int .i64 q]), .int .u64 0, .int .i64 10]) := by
  refine (rtto W xs ys s b l p q a hp0 hp1 hp2 hp3 hp4 hp5 hp6 hp7 hp8).mono ?_
  rintro _ (⟨g0, rfl⟩ | ⟨g0, g1, rfl⟩ | ⟨g0, g1, g2, rfl⟩ | ⟨g0, g1, g2, g3, rfl⟩ | ⟨g0, g1, g2, g3, g4, g5, rfl⟩ | ⟨g0, g1, g2, g3, g4, g5, rfl⟩ | ⟨g0, g1, g2, g3, g4, g5, rfl⟩ | ⟨g0, g1, g2, g3, g4, g5, rfl⟩)
  · exfalso; first | omega | grind
  · exfalso; first | omega | grind
  · exfalso; first | omega | grind
  · exfalso; first | omega | grind
  · rfl
  · exfalso; first | omega | grind
  · exfalso; first | omega | grind
  · exfalso; first | omega | grind

theorem rtto_6 (W : Int) (xs : List Int) (ys : List Int) (s : Int) (b : Int) (l : Int) (p : Int) (q : Int) (a : Int) (hp0 : 16 ≤ W ∧ W ≤ 4096) (hp1 : (xs.length : Int) = W) (hp2 : (ys.length : Int) = W) (hp3 : U64s xs) (hp4 : U64s ys) (hp5 : (s = 0 ∨ s = 1) ∧ 0 ≤ b ∧ b ≤ l ∧ l ≤ 4096) (hp6 : l = W) (hp7 : 0 ≤ p ∧ p ≤ q ∧ q ≤ b) (hp8 : 0 ≤ a ∧ a ≤ 18446744073709551615) (hp9 : a ≠ 0) (hp10 : (oErr W xs ys a) = 0) (hp11 : (ldw xs ys a / 72057594037927936) ≠ 255) (hp12 : ¬ (a / 4294967296 - 1 = s)) (hp13 : (ldw xs ys (a + 1)) ≠ 0) (hp14 : 1 ≤ (ldw xs ys (a + 1)) / 4294967296 ∧ (ldw xs ys (a + 1)) / 4294967296 ≤ 2 ∧ (ldw xs ys (a + 1)) / 4294967296 - 1 = s) : Pub Try.prog 12 [.agg (mr W xs ys [.int .i64 s, .int .i64 b, .int .i64 l, .int .i64 p, .int .i64 q]), .int .u64 a] (fun rv => rv = .tup [.agg (mr W xs ys [.int .i64 s, .int .i64 b, .int .i64 l, .int .i64 p, .int .i64 q]), .int .u64 (ldw xs ys (a + 1)), .int .i64 0]) := by
  refine (rtto W xs ys s b l p q a hp0 hp1 hp2 hp3 hp4 hp5 hp6 hp7 hp8).mono ?_
  rintro _ (⟨g0, rfl⟩ | ⟨g0, g1, rfl⟩ | ⟨g0, g1, g2, rfl⟩ | ⟨g0, g1, g2, g3, rfl⟩ | ⟨g0, g1, g2, g3, g4, g5, rfl⟩ | ⟨g0, g1, g2, g3, g4, g5, rfl⟩ | ⟨g0, g1, g2, g3, g4, g5, rfl⟩ | ⟨g0, g1, g2, g3, g4, g5, rfl⟩)
  · exfalso; first | omega | grind
  · exfalso; first | omega | grind
  · exfalso; first | omega | grind
  · exfalso; first | omega | grind
  · exfalso; first | omega | grind
  · rfl
  · exfalso; first | omega | grind
  · exfalso; first | omega | grind

theorem rtto_7 (W : Int) (xs : List Int) (ys : List Int) (s : Int) (b : Int) (l : Int) (p : Int) (q : Int) (a : Int) (hp0 : 16 ≤ W ∧ W ≤ 4096) (hp1 : (xs.length : Int) = W) (hp2 : (ys.length : Int) = W) (hp3 : U64s xs) (hp4 : U64s ys) (hp5 : (s = 0 ∨ s = 1) ∧ 0 ≤ b ∧ b ≤ l ∧ l ≤ 4096) (hp6 : l = W) (hp7 : 0 ≤ p ∧ p ≤ q ∧ q ≤ b) (hp8 : 0 ≤ a ∧ a ≤ 18446744073709551615) (hp9 : a ≠ 0) (hp10 : (oErr W xs ys a) = 0) (hp11 : (ldw xs ys a / 72057594037927936) ≠ 255) (hp12 : ¬ (a / 4294967296 - 1 = s)) (hp13 : (ldw xs ys (a + 1)) = 0) (hp14 : l - b < (((ldw xs ys a / 4294967296) % 16777216) + 2)) : Pub Try.prog 12 [.agg (mr W xs ys [.int .i64 s, .int .i64 b, .int .i64 l, .int .i64 p, .int .i64 q]), .int .u64 a] (fun rv => rv = .tup [.agg (mr W xs ys [.int .i64 s, .int .i64 b, .int .i64 l, .int .i64 p, .int .i64 q]), .int .u64 0, .int .i64 4]) := by
  refine (rtto W xs ys s b l p q a hp0 hp1 hp2 hp3 hp4 hp5 hp6 hp7 hp8).mono ?_
  rintro _ (⟨g0, rfl⟩ | ⟨g0, g1, rfl⟩ | ⟨g0, g1, g2, rfl⟩ | ⟨g0, g1, g2, g3, rfl⟩ | ⟨g0, g1, g2, g3, g4, g5, rfl⟩ | ⟨g0, g1, g2, g3, g4, g5, rfl⟩ | ⟨g0, g1, g2, g3, g4, g5, rfl⟩ | ⟨g0, g1, g2, g3, g4, g5, rfl⟩)
  · exfalso; first | omega | grind
  · exfalso; first | omega | grind
  · exfalso; first | omega | grind
  · exfalso; first | omega | grind
  · exfalso; first | omega | grind
  · exfalso; first | omega | grind
  · rfl
  · exfalso; first | omega | grind

theorem rtto_8 (W : Int) (xs : List Int) (ys : List Int) (s : Int) (b : Int) (l : Int) (p : Int) (q : Int) (a : Int) (hp0 : 16 ≤ W ∧ W ≤ 4096) (hp1 : (xs.length : Int) = W) (hp2 : (ys.length : Int) = W) (hp3 : U64s xs) (hp4 : U64s ys) (hp5 : (s = 0 ∨ s = 1) ∧ 0 ≤ b ∧ b ≤ l ∧ l ≤ 4096) (hp6 : l = W) (hp7 : 0 ≤ p ∧ p ≤ q ∧ q ≤ b) (hp8 : 0 ≤ a ∧ a ≤ 18446744073709551615) (hp9 : a ≠ 0) (hp10 : (oErr W xs ys a) = 0) (hp11 : (ldw xs ys a / 72057594037927936) ≠ 255) (hp12 : ¬ (a / 4294967296 - 1 = s)) (hp13 : (ldw xs ys (a + 1)) = 0) (hp14 : (((ldw xs ys a / 4294967296) % 16777216) + 2) ≤ l - b) : Pub Try.prog 12 [.agg (mr W xs ys [.int .i64 s, .int .i64 b, .int .i64 l, .int .i64 p, .int .i64 q]), .int .u64 a] (fun rv => rv = .tup [.agg (mr W (tX xs ys a ((s + 1) * 4294967296 + b) (((ldw xs ys a / 4294967296) % 16777216) + 2)) (tY xs ys a ((s + 1) * 4294967296 + b) (((ldw xs ys a / 4294967296) % 16777216) + 2)) [.int .i64 s, .int .i64 (b + (((ldw xs ys a / 4294967296) % 16777216) + 2)), .int .i64 l, .int .i64 p, .int .i64 q]), .int .u64 ((s + 1) * 4294967296 + b), .int .i64 0]) := by
  refine (rtto W xs ys s b l p q a hp0 hp1 hp2 hp3 hp4 hp5 hp6 hp7 hp8).mono ?_
  rintro _ (⟨g0, rfl⟩ | ⟨g0, g1, rfl⟩ | ⟨g0, g1, g2, rfl⟩ | ⟨g0, g1, g2, g3, rfl⟩ | ⟨g0, g1, g2, g3, g4, g5, rfl⟩ | ⟨g0, g1, g2, g3, g4, g5, rfl⟩ | ⟨g0, g1, g2, g3, g4, g5, rfl⟩ | ⟨g0, g1, g2, g3, g4, g5, rfl⟩)
  · exfalso; first | omega | grind
  · exfalso; first | omega | grind
  · exfalso; first | omega | grind
  · exfalso; first | omega | grind
  · exfalso; first | omega | grind
  · exfalso; first | omega | grind
  · exfalso; first | omega | grind
  · rfl

end Go.Proofs.Ytkiaoafmlekndaa.X
