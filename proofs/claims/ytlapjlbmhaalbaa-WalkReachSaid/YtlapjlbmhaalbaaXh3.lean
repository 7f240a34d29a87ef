/- Contracts of Go functions: what each returns, for every input that its premises name; no memory of the caller is touched. Printed by a program. -/
import Derived.Test.YtlapjlbmhaalbaaXh2
namespace Go.Proofs.Ytlapjlbmhaalbaa.X
open Go Go.RowKit
set_option linter.unusedVariables false      -- a premise may serve only to tell which way is taken
set_option linter.unusedSimpArgs false
theorem few6 (W : Int) (xs ys : List Int) (hp0 : -9223372036854775808 ≤ W ∧ W ≤ 9223372036854775807) : Pub Try.prog 8 [.agg (mm W xs ys)] (fun rv => ((16 ≤ W ∧ W ≤ 200 ∧ (xs.length : Int) = W ∧ (ys.length : Int) = W) ∧ rv = .t) ∨ ((¬ (16 ≤ W ∧ W ≤ 200 ∧ (xs.length : Int) = W ∧ (ys.length : Int) = W)) ∧ rv = .f)) := by
 refine pub_of TT_ok Try.func8 rfl (by decide) (Nat.le_of_ble_eq_true (by kernel_rfl)) (by kernel_rfl) ?_
 refine rg [] 2 ⟨[(2, .f), (1, .p 0)], [(0, .cells (mm W xs ys) 25)], 1⟩ [] trivial ?_
 refine xw_seq ?_
 refine reg ?_
 refine rk [] 1 0 ⟨[(4, .agg (mm W xs ys)), (2, .f), (1, .p 0)], [(0, .cells (mm W xs ys) 25)], 1⟩ [True] ⟨trivial, trivial⟩ ?_
 by_cases h0 : 16 ≤ W ∧ W ≤ 4096 ∧ (xs.length : Int) = W ∧ (ys.length : Int) = W
 ·
  refine pc (rmright_1 W xs ys ‹_› ‹_›) ?_
  refine rk [] 1 2 ⟨[(3, .t), (2, .f), (1, .p 0)], [(0, .cells (mm W xs ys) 25)], 1⟩ [] trivial ?_
  refine en ?_
  refine an ?_
  refine rg [(4, .bool (decide (W ≤ 200)))] 7 ⟨[(2, .bool (decide (W ≤ 200)))], [], 1⟩ [True, (decide (W ≤ 200)) = (decide (W ≤ 200)), True] ⟨trivial, rfl, trivial, trivial⟩ ?_
  refine xw_ret ?_
  by_cases h1 : W ≤ 200
  ·
   exact br (.bool (decide (W ≤ 200))) (.t) (wkd [(decide (W ≤ 200)) = true] (by kernel_rfl) ⟨(by first | exact decide_eq_true (by omega) | exact decide_eq_false (by omega) | (simp; done) | (simp; omega) | (simp_all; done) | (simp_all; omega) | grind), trivial⟩) (Or.inl <| ⟨(by omega), rfl⟩)
  ·
   exact br (.bool (decide (W ≤ 200))) (.f) (wkd [(decide (W ≤ 200)) = false] (by kernel_rfl) ⟨(by first | exact decide_eq_true (by omega) | exact decide_eq_false (by omega) | (simp; done) | (simp; omega) | (simp_all; done) | (simp_all; omega) | grind), trivial⟩) (Or.inr <| ⟨(by omega), rfl⟩)
 ·
  refine pc (rmright_2 W xs ys ‹_› ‹_›) ?_
  refine rk [] 1 2 ⟨[(3, .f), (2, .f), (1, .p 0)], [(0, .cells (mm W xs ys) 25)], 1⟩ [] trivial ?_
  refine en ?_
  refine an ?_
  refine rg [] 7 ⟨[(2, .f)], [], 1⟩ [True] ⟨trivial, trivial⟩ ?_
  refine xw_ret ?_
  exact bs (.f) (Or.inr <| ⟨(by omega), rfl⟩)

theorem few6_1 (W : Int) (xs ys : List Int) (hp0 : -9223372036854775808 ≤ W ∧ W ≤ 9223372036854775807) (hp1 : 16 ≤ W ∧ W ≤ 200 ∧ (xs.length : Int) = W ∧ (ys.length : Int) = W) : Pub Try.prog 8 [.agg (mm W xs ys)] (fun rv => rv = .t) := by
  refine (few6 W xs ys hp0).mono ?_
  rintro _ (⟨g0, rfl⟩ | ⟨g0, rfl⟩)
  all_goals first | rfl | (exfalso; first | omega | grind)

theorem few6_2 (W : Int) (xs ys : List Int) (hp0 : -9223372036854775808 ≤ W ∧ W ≤ 9223372036854775807) (hp1 : ¬ (16 ≤ W ∧ W ≤ 200 ∧ (xs.length : Int) = W ∧ (ys.length : Int) = W)) : Pub Try.prog 8 [.agg (mm W xs ys)] (fun rv => rv = .f) := by
  refine (few6 W xs ys hp0).mono ?_
  rintro _ (⟨g0, rfl⟩ | ⟨g0, rfl⟩)
  all_goals first | rfl | (exfalso; first | omega | grind)

theorem shown6  : Pub Try.prog 7 [] (fun rv => rv = .t) := by
 refine pub_of TT_ok Try.func7 rfl (by decide) (Nat.le_of_ble_eq_true (by kernel_rfl)) (by kernel_rfl) ?_
 refine rg [] 1 ⟨[(0, .f)], [], 0⟩ [] trivial ?_
 refine xw_seq ?_
 refine sreg hmix [([], 0), ([(0, .cells [.i 0, .nils, .nils] 25)], 1), ([(0, .cells (mm 16 (List.replicate (Int.toNat 16) 0) (List.replicate (Int.toNat 16) 0)) 25)], 1)] [4, 5] [(2, [0, 1]), (3, [0, 1, 2]), (5, [0, 1, 2, 3, 4])] (by kernel_rfl) (by kernel_rfl) (by kernel_rfl) (by kernel_rfl) (by kernel_rfl) ?_
 refine sr [(0, .t)] 1 0 [(6, .sl false 1 (List.replicate (Int.toNat 16) (.u 0))), (0, .f)] [((16 : Int) = 16) ∧ (((0 : Int) ≤ 16) ∧ (((16 : Int) ≤ 1099511627776) ∧ (((8 : Nat) : Int) * 16 ≤ 140737488355328))), (SV.sl false 1 (List.replicate (Int.toNat 16) (.u 0))) = SV.sl false 1 (List.replicate (Int.toNat 16) (.u 0)), ((16 : Int) = 16) ∧ (((0 : Int) ≤ 16) ∧ (((16 : Int) ≤ 1099511627776) ∧ (((8 : Nat) : Int) * 16 ≤ 140737488355328)))] ⟨(by refine ⟨rfl, ?_, ?_, ?_⟩ <;> omega), rfl, (by refine ⟨rfl, ?_, ?_, ?_⟩ <;> omega), trivial⟩ ?_
 refine ssets 6 (x := false) (z := 1) (L := (List.replicate (Int.toNat 16) (.u 0))) (L' := (m64 (List.replicate (Int.toNat 16) 0))) (by kernel_rfl) rep_map ?_
 refine sr [(1, .t)] 1 1 [(7, .sl false 1 (List.replicate (Int.toNat 16) (.u 0))), (6, .sl false 1 (m64 (List.replicate (Int.toNat 16) 0))), (6, .sl false 1 (List.replicate (Int.toNat 16) (.u 0))), (0, .f)] [((16 : Int) = 16) ∧ (((0 : Int) ≤ 16) ∧ (((16 : Int) ≤ 1099511627776) ∧ (((8 : Nat) : Int) * 16 ≤ 140737488355328))), (SV.sl false 1 (List.replicate (Int.toNat 16) (.u 0))) = SV.sl false 1 (List.replicate (Int.toNat 16) (.u 0)), ((16 : Int) = 16) ∧ (((0 : Int) ≤ 16) ∧ (((16 : Int) ≤ 1099511627776) ∧ (((8 : Nat) : Int) * 16 ≤ 140737488355328)))] ⟨(by refine ⟨rfl, ?_, ?_, ?_⟩ <;> omega), rfl, (by refine ⟨rfl, ?_, ?_, ?_⟩ <;> omega), trivial⟩ ?_
 refine ssets 7 (x := false) (z := 1) (L := (List.replicate (Int.toNat 16) (.u 0))) (L' := (m64 (List.replicate (Int.toNat 16) 0))) (by kernel_rfl) rep_map ?_
 refine sr [] 4 2 [(1, .p 0), (9, .agg (mm 16 (List.replicate (Int.toNat 16) 0) (List.replicate (Int.toNat 16) 0))), (8, .agg [.sl false 1 (m64 (List.replicate (Int.toNat 16) 0)), .sl false 1 (m64 (List.replicate (Int.toNat 16) 0))]), (7, .sl false 1 (m64 (List.replicate (Int.toNat 16) 0))), (7, .sl false 1 (List.replicate (Int.toNat 16) (.u 0))), (6, .sl false 1 (m64 (List.replicate (Int.toNat 16) 0))), (6, .sl false 1 (List.replicate (Int.toNat 16) (.u 0))), (0, .f)] [True, True, True, ([(0, .cells [.i 0, .nils, .nils] 25)] : Mem) = [(0, .cells [.i 0, .nils, .nils] 25)], (1 : Nat) = 1, True, ([(0, .cells (mm 16 (List.replicate (Int.toNat 16) 0) (List.replicate (Int.toNat 16) 0)) 25)] : Mem) = [(0, .cells (mm 16 (List.replicate (Int.toNat 16) 0) (List.replicate (Int.toNat 16) 0)) 25)], (1 : Nat) = 1] ⟨trivial, trivial, trivial, rfl, rfl, trivial, rfl, rfl, trivial⟩ ?_
 refine sen ?_
 refine an ?_
 refine xw_seq ?_
 refine reg ?_
 refine rk [] 2 0 ⟨[(12, .agg [.i 1, .i 1, .u 0]), (11, .agg (mm 16 (List.replicate (Int.toNat 16) 0) (List.replicate (Int.toNat 16) 0))), (1, .p 0), (0, .f)], [(0, .cells (mm 16 (List.replicate (Int.toNat 16) 0) (List.replicate (Int.toNat 16) 0)) 25)], 1⟩ [True] ⟨trivial, trivial⟩ ?_
 refine pc (roput_1 16 (List.replicate (Int.toNat 16) 0) (List.replicate (Int.toNat 16) 0) 4294967296 1 1 0 (by omega) (by first | omega | assumption | rfl | (rw [len_zx]; assumption) | (rw [len_zy]; assumption) | exact U64s.zx (by assumption) _ _ | exact U64s.zy (by assumption) _ _ | exact U64s.rep _ | decide | (simp; done)) (by first | omega | assumption | rfl | (rw [len_zx]; assumption) | (rw [len_zy]; assumption) | exact U64s.zx (by assumption) _ _ | exact U64s.zy (by assumption) _ _ | exact U64s.rep _ | decide | (simp; done)) (by first | omega | assumption | rfl | (rw [len_zx]; assumption) | (rw [len_zy]; assumption) | exact U64s.zx (by assumption) _ _ | exact U64s.zy (by assumption) _ _ | exact U64s.rep _ | decide | (simp; done)) (by first | omega | assumption | rfl | (rw [len_zx]; assumption) | (rw [len_zy]; assumption) | exact U64s.zx (by assumption) _ _ | exact U64s.zy (by assumption) _ _ | exact U64s.rep _ | decide | (simp; done)) (by omega) (by omega) (by omega) (by omega) (by first | omega | decide) (by omega) (by omega)) ?_
 obtain ⟨h0, h1, h2, h3, h4, h5⟩ := put_ok 16 (List.replicate (Int.toNat 16) 0) (List.replicate (Int.toNat 16) 0) 4294967296 1 1 0 (by first | omega | assumption | rfl | (rw [len_zx]; assumption) | (rw [len_zy]; assumption) | exact U64s.zx (by assumption) _ _ | exact U64s.zy (by assumption) _ _ | exact U64s.rep _ | decide | (simp; done)) (by first | omega | assumption | rfl | (rw [len_zx]; assumption) | (rw [len_zy]; assumption) | exact U64s.zx (by assumption) _ _ | exact U64s.zy (by assumption) _ _ | exact U64s.rep _ | decide | (simp; done)) (by first | omega | assumption | rfl | (rw [len_zx]; assumption) | (rw [len_zy]; assumption) | exact U64s.zx (by assumption) _ _ | exact U64s.zy (by assumption) _ _ | exact U64s.rep _ | decide | (simp; done)) (by first | omega | assumption | rfl | (rw [len_zx]; assumption) | (rw [len_zy]; assumption) | exact U64s.zx (by assumption) _ _ | exact U64s.zy (by assumption) _ _ | exact U64s.rep _ | decide | (simp; done)) (by omega) (by omega) (by omega) (by first | omega | decide) (by omega)
 refine rk [] 4 3 ⟨[(1, .p 0), (0, .f)], [(0, .cells (mm 16 (px (List.replicate (Int.toNat 16) 0) 4294967296 1 1 0) (py (List.replicate (Int.toNat 16) 0) 4294967296 1 1 0)) 25)], 1⟩ [True] ⟨trivial, trivial⟩ ?_
 refine en ?_
 refine an ?_
 refine xw_seq ?_
 refine reg ?_
 refine rk [] 1 0 ⟨[(17, .agg (mm 16 (px (List.replicate (Int.toNat 16) 0) 4294967296 1 1 0) (py (List.replicate (Int.toNat 16) 0) 4294967296 1 1 0))), (1, .p 0), (0, .f)], [(0, .cells (mm 16 (px (List.replicate (Int.toNat 16) 0) 4294967296 1 1 0) (py (List.replicate (Int.toNat 16) 0) 4294967296 1 1 0)) 25)], 1⟩ [True] ⟨trivial, trivial⟩ ?_
 refine pc (rofill_1 16 (px (List.replicate (Int.toNat 16) 0) 4294967296 1 1 0) (py (List.replicate (Int.toNat 16) 0) 4294967296 1 1 0) 4294967299 2 (by omega) ‹_› ‹_› ‹_› ‹_› (by omega) (by omega) (by omega) (by omega) (by omega)) ?_
 obtain ⟨h6, h7, h8, h9, h10, h11⟩ := fill_ok 16 (px (List.replicate (Int.toNat 16) 0) 4294967296 1 1 0) (py (List.replicate (Int.toNat 16) 0) 4294967296 1 1 0) 4294967299 2 ‹_› ‹_› ‹_› ‹_› (by omega) (by omega) (by omega) (by omega)
 have h12 : (wE 16 (px (px (List.replicate (Int.toNat 16) 0) 4294967296 1 1 0) 4294967299 255 (2 - 1) 0) (py (py (List.replicate (Int.toNat 16) 0) 4294967296 1 1 0) 4294967299 255 (2 - 1) 0) 0 5) = 0 := by decide +kernel
 have h13 : ((wA 16 (px (px (List.replicate (Int.toNat 16) 0) 4294967296 1 1 0) 4294967299 255 (2 - 1) 0) (py (py (List.replicate (Int.toNat 16) 0) 4294967296 1 1 0) 4294967299 255 (2 - 1) 0) 0 5).length : Int) = 2 := by decide +kernel
 have h14 : (ix (wA 16 (px (px (List.replicate (Int.toNat 16) 0) 4294967296 1 1 0) 4294967299 255 (2 - 1) 0) (py (py (List.replicate (Int.toNat 16) 0) 4294967296 1 1 0) 4294967299 255 (2 - 1) 0) 0 5) 1) = 4294967299 := by decide +kernel
 have h15 : ((wO 16 (px (px (List.replicate (Int.toNat 16) 0) 4294967296 1 1 0) 4294967299 255 (2 - 1) 0) (py (py (List.replicate (Int.toNat 16) 0) 4294967296 1 1 0) 4294967299 255 (2 - 1) 0) 0 5).length : Int) = 1 := by decide +kernel
 have h16 : (ix (wO 16 (px (px (List.replicate (Int.toNat 16) 0) 4294967296 1 1 0) 4294967299 255 (2 - 1) 0) (py (py (List.replicate (Int.toNat 16) 0) 4294967296 1 1 0) 4294967299 255 (2 - 1) 0) 0 5) 0) = 4294967296 := by decide +kernel
 refine rk [] 4 2 ⟨[(1, .p 0), (0, .f)], [(0, .cells (mm 16 (px (px (List.replicate (Int.toNat 16) 0) 4294967296 1 1 0) 4294967299 255 (2 - 1) 0) (py (py (List.replicate (Int.toNat 16) 0) 4294967296 1 1 0) 4294967299 255 (2 - 1) 0)) 25)], 1⟩ [True] ⟨trivial, trivial⟩ ?_
 refine en ?_
 refine an ?_
 refine xw_seq ?_
 refine reg ?_
 refine rk [] 1 0 ⟨[(22, .agg (mm 16 (px (px (List.replicate (Int.toNat 16) 0) 4294967296 1 1 0) 4294967299 255 (2 - 1) 0) (py (py (List.replicate (Int.toNat 16) 0) 4294967296 1 1 0) 4294967299 255 (2 - 1) 0))), (1, .p 0), (0, .f)], [(0, .cells (mm 16 (px (px (List.replicate (Int.toNat 16) 0) 4294967296 1 1 0) 4294967299 255 (2 - 1) 0) (py (py (List.replicate (Int.toNat 16) 0) 4294967296 1 1 0) 4294967299 255 (2 - 1) 0)) 25)], 1⟩ [True] ⟨trivial, trivial⟩ ?_
 refine pc (wall_2 16 (px (px (List.replicate (Int.toNat 16) 0) 4294967296 1 1 0) 4294967299 255 (2 - 1) 0) (py (py (List.replicate (Int.toNat 16) 0) 4294967296 1 1 0) 4294967299 255 (2 - 1) 0) 0 5 (by omega) ‹_› ‹_› ‹_› ‹_› (by omega) (by omega) (by omega) ‹_›) ?_
 obtain ⟨h17, h18⟩ := wA_ok 16 (px (px (List.replicate (Int.toNat 16) 0) 4294967296 1 1 0) 4294967299 255 (2 - 1) 0) (py (py (List.replicate (Int.toNat 16) 0) 4294967296 1 1 0) 4294967299 255 (2 - 1) 0) 0 5 (by omega) (by omega)
 refine rk [] 5 2 ⟨[(3, .i 0), (2, .sl false 1 (m64 (wA 16 (px (px (List.replicate (Int.toNat 16) 0) 4294967296 1 1 0) 4294967299 255 (2 - 1) 0) (py (py (List.replicate (Int.toNat 16) 0) 4294967296 1 1 0) 4294967299 255 (2 - 1) 0) 0 5))), (1, .p 0), (0, .f)], [(0, .cells (mm 16 (px (px (List.replicate (Int.toNat 16) 0) 4294967296 1 1 0) 4294967299 255 (2 - 1) 0) (py (py (List.replicate (Int.toNat 16) 0) 4294967296 1 1 0) 4294967299 255 (2 - 1) 0)) 25)], 1⟩ [] trivial ?_
 refine en ?_
 refine an ?_
 refine xw_seq ?_
 refine reg ?_
 refine rk [] 1 0 ⟨[(27, .agg (mm 16 (px (px (List.replicate (Int.toNat 16) 0) 4294967296 1 1 0) 4294967299 255 (2 - 1) 0) (py (py (List.replicate (Int.toNat 16) 0) 4294967296 1 1 0) 4294967299 255 (2 - 1) 0))), (3, .i 0), (2, .sl false 1 (m64 (wA 16 (px (px (List.replicate (Int.toNat 16) 0) 4294967296 1 1 0) 4294967299 255 (2 - 1) 0) (py (py (List.replicate (Int.toNat 16) 0) 4294967296 1 1 0) 4294967299 255 (2 - 1) 0) 0 5))), (0, .f)], [], 1⟩ [True] ⟨trivial, trivial⟩ ?_
 refine pc (wobjects_2 16 (px (px (List.replicate (Int.toNat 16) 0) 4294967296 1 1 0) 4294967299 255 (2 - 1) 0) (py (py (List.replicate (Int.toNat 16) 0) 4294967296 1 1 0) 4294967299 255 (2 - 1) 0) 0 5 (by omega) ‹_› ‹_› ‹_› ‹_› (by omega) (by omega) (by omega) ‹_›) ?_
 obtain ⟨h19, h20⟩ := wO_ok 16 (px (px (List.replicate (Int.toNat 16) 0) 4294967296 1 1 0) 4294967299 255 (2 - 1) 0) (py (py (List.replicate (Int.toNat 16) 0) 4294967296 1 1 0) 4294967299 255 (2 - 1) 0) 0 5 (by omega) (by omega)
 refine rk [] 5 2 ⟨[(5, .i 0), (4, .sl false 1 (m64 (wO 16 (px (px (List.replicate (Int.toNat 16) 0) 4294967296 1 1 0) 4294967299 255 (2 - 1) 0) (py (py (List.replicate (Int.toNat 16) 0) 4294967296 1 1 0) 4294967299 255 (2 - 1) 0) 0 5))), (3, .i 0), (2, .sl false 1 (m64 (wA 16 (px (px (List.replicate (Int.toNat 16) 0) 4294967296 1 1 0) 4294967299 255 (2 - 1) 0) (py (py (List.replicate (Int.toNat 16) 0) 4294967296 1 1 0) 4294967299 255 (2 - 1) 0) 0 5))), (0, .f)], [], 1⟩ [] trivial ?_
 refine en ?_
 refine an ?_
 refine xw_seq ?_
 refine reg ?_
 refine rk [(1, .t), (4, .t), (8, .i (((wA 16 (px (px (List.replicate (Int.toNat 16) 0) 4294967296 1 1 0) 4294967299 255 (2 - 1) 0) (py (py (List.replicate (Int.toNat 16) 0) 4294967296 1 1 0) 4294967299 255 (2 - 1) 0) 0 5)).length : Int)), (9, .t), (13, .u (ix (wA 16 (px (px (List.replicate (Int.toNat 16) 0) 4294967296 1 1 0) 4294967299 255 (2 - 1) 0) (py (py (List.replicate (Int.toNat 16) 0) 4294967296 1 1 0) 4294967299 255 (2 - 1) 0) 0 5) 1))] 14 0 ⟨[(44, .elt (.u (ix (wA 16 (px (px (List.replicate (Int.toNat 16) 0) 4294967296 1 1 0) 4294967299 255 (2 - 1) 0) (py (py (List.replicate (Int.toNat 16) 0) 4294967296 1 1 0) 4294967299 255 (2 - 1) 0) 0 5) 1))), (42, .t), (4, .sl false 1 (m64 (wO 16 (px (px (List.replicate (Int.toNat 16) 0) 4294967296 1 1 0) 4294967299 255 (2 - 1) 0) (py (py (List.replicate (Int.toNat 16) 0) 4294967296 1 1 0) 4294967299 255 (2 - 1) 0) 0 5))), (0, .f)], [], 1⟩ [(0 == 0) = true, (0 == 0) = true, True, ((((m64 (wA 16 (px (px (List.replicate (Int.toNat 16) 0) 4294967296 1 1 0) 4294967299 255 (2 - 1) 0) (py (py (List.replicate (Int.toNat 16) 0) 4294967296 1 1 0) 4294967299 255 (2 - 1) 0) 0 5))).length : Nat) : Int) = (((wA 16 (px (px (List.replicate (Int.toNat 16) 0) 4294967296 1 1 0) 4294967299 255 (2 - 1) 0) (py (py (List.replicate (Int.toNat 16) 0) 4294967296 1 1 0) 4294967299 255 (2 - 1) 0) 0 5)).length : Int), ((((wA 16 (px (px (List.replicate (Int.toNat 16) 0) 4294967296 1 1 0) 4294967299 255 (2 - 1) 0) (py (py (List.replicate (Int.toNat 16) 0) 4294967296 1 1 0) 4294967299 255 (2 - 1) 0) 0 5)).length : Int) == 2) = true, True, (0 : Int) ≤ 1 ∧ 1 < ((((m64 (wA 16 (px (px (List.replicate (Int.toNat 16) 0) 4294967296 1 1 0) 4294967299 255 (2 - 1) 0) (py (py (List.replicate (Int.toNat 16) 0) 4294967296 1 1 0) 4294967299 255 (2 - 1) 0) 0 5))).length : Nat) : Int) ∧ ((m64 (wA 16 (px (px (List.replicate (Int.toNat 16) 0) 4294967296 1 1 0) 4294967299 255 (2 - 1) 0) (py (py (List.replicate (Int.toNat 16) 0) 4294967296 1 1 0) 4294967299 255 (2 - 1) 0) 0 5)))[(1 : Int).toNat]? = some (.u (ix (wA 16 (px (px (List.replicate (Int.toNat 16) 0) 4294967296 1 1 0) 4294967299 255 (2 - 1) 0) (py (py (List.replicate (Int.toNat 16) 0) 4294967296 1 1 0) 4294967299 255 (2 - 1) 0) 0 5) 1))] ⟨beq_iff_eq.2 (by omega), beq_iff_eq.2 (by omega), trivial, (by simp), beq_iff_eq.2 (by omega), trivial, (ix_ok (by omega) (by first | omega | (simp only [len_st]; omega) | (simp; done) | (simp; omega) | (simp [len_st, len_stx, len_sty, len_zx, len_zy]; omega))), trivial⟩ ?_
 have h21 : 0 ≤ (ix (wA 16 (px (px (List.replicate (Int.toNat 16) 0) 4294967296 1 1 0) 4294967299 255 (2 - 1) 0) (py (py (List.replicate (Int.toNat 16) 0) 4294967296 1 1 0) 4294967299 255 (2 - 1) 0) 0 5) 1) ∧ (ix (wA 16 (px (px (List.replicate (Int.toNat 16) 0) 4294967296 1 1 0) 4294967299 255 (2 - 1) 0) (py (py (List.replicate (Int.toNat 16) 0) 4294967296 1 1 0) 4294967299 255 (2 - 1) 0) 0 5) 1) ≤ 18446744073709551615 := U64s.ix (by first | assumption | exact U64s.st (by assumption) _ (by omega)) _
 refine rk [(15, .t), (19, .i (((wO 16 (px (px (List.replicate (Int.toNat 16) 0) 4294967296 1 1 0) 4294967299 255 (2 - 1) 0) (py (py (List.replicate (Int.toNat 16) 0) 4294967296 1 1 0) 4294967299 255 (2 - 1) 0) 0 5)).length : Int)), (20, .t), (24, .u (ix (wO 16 (px (px (List.replicate (Int.toNat 16) 0) 4294967296 1 1 0) 4294967299 255 (2 - 1) 0) (py (py (List.replicate (Int.toNat 16) 0) 4294967296 1 1 0) 4294967299 255 (2 - 1) 0) 0 5) 0))] 11 14 ⟨[(55, .elt (.u (ix (wO 16 (px (px (List.replicate (Int.toNat 16) 0) 4294967296 1 1 0) 4294967299 255 (2 - 1) 0) (py (py (List.replicate (Int.toNat 16) 0) 4294967296 1 1 0) 4294967299 255 (2 - 1) 0) 0 5) 0))), (53, .t), (0, .f)], [], 1⟩ [True, ((ix (wA 16 (px (px (List.replicate (Int.toNat 16) 0) 4294967296 1 1 0) 4294967299 255 (2 - 1) 0) (py (py (List.replicate (Int.toNat 16) 0) 4294967296 1 1 0) 4294967299 255 (2 - 1) 0) 0 5) 1) == 4294967299) = true, True, ((((m64 (wO 16 (px (px (List.replicate (Int.toNat 16) 0) 4294967296 1 1 0) 4294967299 255 (2 - 1) 0) (py (py (List.replicate (Int.toNat 16) 0) 4294967296 1 1 0) 4294967299 255 (2 - 1) 0) 0 5))).length : Nat) : Int) = (((wO 16 (px (px (List.replicate (Int.toNat 16) 0) 4294967296 1 1 0) 4294967299 255 (2 - 1) 0) (py (py (List.replicate (Int.toNat 16) 0) 4294967296 1 1 0) 4294967299 255 (2 - 1) 0) 0 5)).length : Int), ((((wO 16 (px (px (List.replicate (Int.toNat 16) 0) 4294967296 1 1 0) 4294967299 255 (2 - 1) 0) (py (py (List.replicate (Int.toNat 16) 0) 4294967296 1 1 0) 4294967299 255 (2 - 1) 0) 0 5)).length : Int) == 1) = true, True, (0 : Int) ≤ 0 ∧ 0 < ((((m64 (wO 16 (px (px (List.replicate (Int.toNat 16) 0) 4294967296 1 1 0) 4294967299 255 (2 - 1) 0) (py (py (List.replicate (Int.toNat 16) 0) 4294967296 1 1 0) 4294967299 255 (2 - 1) 0) 0 5))).length : Nat) : Int) ∧ ((m64 (wO 16 (px (px (List.replicate (Int.toNat 16) 0) 4294967296 1 1 0) 4294967299 255 (2 - 1) 0) (py (py (List.replicate (Int.toNat 16) 0) 4294967296 1 1 0) 4294967299 255 (2 - 1) 0) 0 5)))[(0 : Int).toNat]? = some (.u (ix (wO 16 (px (px (List.replicate (Int.toNat 16) 0) 4294967296 1 1 0) 4294967299 255 (2 - 1) 0) (py (py (List.replicate (Int.toNat 16) 0) 4294967296 1 1 0) 4294967299 255 (2 - 1) 0) 0 5) 0))] ⟨trivial, beq_iff_eq.2 (by omega), trivial, (by simp), beq_iff_eq.2 (by omega), trivial, (ix_ok (by omega) (by first | omega | (simp only [len_st]; omega) | (simp; done) | (simp; omega) | (simp [len_st, len_stx, len_sty, len_zx, len_zy]; omega))), trivial⟩ ?_
 have h22 : 0 ≤ (ix (wO 16 (px (px (List.replicate (Int.toNat 16) 0) 4294967296 1 1 0) 4294967299 255 (2 - 1) 0) (py (py (List.replicate (Int.toNat 16) 0) 4294967296 1 1 0) 4294967299 255 (2 - 1) 0) 0 5) 0) ∧ (ix (wO 16 (px (px (List.replicate (Int.toNat 16) 0) 4294967296 1 1 0) 4294967299 255 (2 - 1) 0) (py (py (List.replicate (Int.toNat 16) 0) 4294967296 1 1 0) 4294967299 255 (2 - 1) 0) 0 5) 0) ≤ 18446744073709551615 := U64s.ix (by first | assumption | exact U64s.st (by assumption) _ (by omega)) _
 refine rk [(26, .t)] 4 25 ⟨[(0, .t)], [], 1⟩ [True, ((ix (wO 16 (px (px (List.replicate (Int.toNat 16) 0) 4294967296 1 1 0) 4294967299 255 (2 - 1) 0) (py (py (List.replicate (Int.toNat 16) 0) 4294967296 1 1 0) 4294967299 255 (2 - 1) 0) 0 5) 0) == 4294967296) = true, True] ⟨trivial, beq_iff_eq.2 (by omega), trivial, trivial⟩ ?_
 refine en ?_
 refine an ?_
 refine xw_ret ?_
 exact bs (.t) rfl

end Go.Proofs.Ytlapjlbmhaalbaa.X
