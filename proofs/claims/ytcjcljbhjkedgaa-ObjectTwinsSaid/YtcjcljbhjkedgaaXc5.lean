/- Contracts of Go functions: what each returns, for every input that its premises name; no memory of the caller is touched. Printed by a program. -/
import Derived.Test.YtcjcljbhjkedgaaXb5
namespace Go.Proofs.Ytcjcljbhjkedgaa.X
open Go Go.RowKit
set_option linter.unusedVariables false      -- a premise may serve only to tell which way is taken
theorem few5 (W : Int) (xs : List Int) (ys : List Int) (hp0 : -9223372036854775808 ≤ W ∧ W ≤ 9223372036854775807) : Pub Try.prog 13 [.agg (mm W xs ys)] (fun rv => ((16 ≤ W ∧ W ≤ 200 ∧ (xs.length : Int) = W ∧ (ys.length : Int) = W) ∧ rv = .bool true) ∨ ((¬ (16 ≤ W ∧ W ≤ 200 ∧ (xs.length : Int) = W ∧ (ys.length : Int) = W)) ∧ rv = .bool false)) := by
 refine pub_of TT_ok Try.func13 rfl (by decide) (Nat.le_of_ble_eq_true (by kernel_rfl)) (by kernel_rfl) ?_
 refine rg [] 2 ⟨[(2, .f), (1, .p 0)], [(0, .cells (mm W xs ys) 25)], 1⟩ [] trivial ?_
 refine xw_seq ?_
 refine reg ?_
 refine rk [] 1 0 ⟨[(4, .agg (mm W xs ys)), (2, .f), (1, .p 0)], [(0, .cells (mm W xs ys) 25)], 1⟩ [True] ⟨trivial, trivial⟩ ?_
 by_cases h0 : 16 ≤ W ∧ W ≤ 4096 ∧ (xs.length : Int) = W ∧ (ys.length : Int) = W
 ·
  refine pc (rmright_1 W xs ys ‹_› ‹_›) ?_
  refine rk [] 1 2 ⟨[(3, .t), (2, .f), (1, .p 0)], [(0, .cells (mm W xs ys) 25)], 1⟩ [] trivial ?_
  refine en ?_
  refine an ?_
  refine rg [(4, .bool (decide (W ≤ 200)))] 7 ⟨[(2, .bool (decide (W ≤ 200)))], [], 1⟩ [True, (decide (W ≤ 200)) = (decide (W ≤ 200)), True] ⟨trivial, rfl, trivial, trivial⟩ ?_
  refine xw_ret ?_
  by_cases h1 : W ≤ 200
  ·
   exact bk_ret (.bool (decide (W ≤ 200))) (.bool (decide (W ≤ 200))) (.t) (by kernel_rfl) (by kernel_rfl) (wkd [(decide (W ≤ 200)) = true] (by kernel_rfl) ⟨(by first | exact decide_eq_true (by omega) | exact decide_eq_false (by omega) | (simp; done) | (simp; omega) | simp_all | grind), trivial⟩) (Or.inl <| ⟨(by omega), rfl⟩)
  ·
   exact bk_ret (.bool (decide (W ≤ 200))) (.bool (decide (W ≤ 200))) (.f) (by kernel_rfl) (by kernel_rfl) (wkd [(decide (W ≤ 200)) = false] (by kernel_rfl) ⟨(by first | exact decide_eq_true (by omega) | exact decide_eq_false (by omega) | (simp; done) | (simp; omega) | simp_all | grind), trivial⟩) (Or.inr <| ⟨(by omega), rfl⟩)
 ·
  refine pc (rmright_2 W xs ys ‹_› ‹_›) ?_
  refine rk [] 1 2 ⟨[(3, .f), (2, .f), (1, .p 0)], [(0, .cells (mm W xs ys) 25)], 1⟩ [] trivial ?_
  refine en ?_
  refine an ?_
  refine rg [] 7 ⟨[(2, .f)], [], 1⟩ [True] ⟨trivial, trivial⟩ ?_
  refine xw_ret ?_
  exact bs (.f) (Or.inr <| ⟨(by omega), rfl⟩)

theorem few5_1 (W : Int) (xs : List Int) (ys : List Int) (hp0 : -9223372036854775808 ≤ W ∧ W ≤ 9223372036854775807) (hp1 : 16 ≤ W ∧ W ≤ 200 ∧ (xs.length : Int) = W ∧ (ys.length : Int) = W) : Pub Try.prog 13 [.agg (mm W xs ys)] (fun rv => rv = .bool true) := by
  refine (few5 W xs ys hp0).mono ?_
  rintro _ (⟨g0, rfl⟩ | ⟨g0, rfl⟩)
  · rfl
  · exfalso; first | omega | grind

theorem few5_2 (W : Int) (xs : List Int) (ys : List Int) (hp0 : -9223372036854775808 ≤ W ∧ W ≤ 9223372036854775807) (hp1 : ¬ (16 ≤ W ∧ W ≤ 200 ∧ (xs.length : Int) = W ∧ (ys.length : Int) = W)) : Pub Try.prog 13 [.agg (mm W xs ys)] (fun rv => rv = .bool false) := by
  refine (few5 W xs ys hp0).mono ?_
  rintro _ (⟨g0, rfl⟩ | ⟨g0, rfl⟩)
  · exfalso; first | omega | grind
  · rfl

theorem shown5  : Pub Try.prog 12 [] (fun rv => rv = .bool true) := by
 refine pub_of TT_ok Try.func12 rfl (by decide) (Nat.le_of_ble_eq_true (by kernel_rfl)) (by kernel_rfl) ?_
 refine rg [] 1 ⟨[(0, .f)], [], 0⟩ [] trivial ?_
 refine xw_seq ?_
 refine sreg hmix [([], 0), ([(0, .cells [.i 0, .nils, .nils] 25)], 1), ([(0, .cells (mm 16 (List.replicate (Int.toNat 16) 0) (List.replicate (Int.toNat 16) 0)) 25)], 1)] [4, 5] [(2, [0, 1]), (3, [0, 1, 2]), (5, [0, 1, 2, 3, 4])] rfl (by kernel_rfl) (by kernel_rfl) (by kernel_rfl) (by kernel_rfl) ?_
 refine sr [(0, .t)] 1 0 [(4, .sl false 1 (List.replicate (Int.toNat 16) (.u 0))), (0, .f)] [((16 : Int) = 16) ∧ (((0 : Int) ≤ 16) ∧ (((16 : Int) ≤ 1099511627776) ∧ (((8 : Nat) : Int) * 16 ≤ 140737488355328))), (SV.sl false 1 (List.replicate (Int.toNat 16) (.u 0))) = SV.sl false 1 (List.replicate (Int.toNat 16) (.u 0)), ((16 : Int) = 16) ∧ (((0 : Int) ≤ 16) ∧ (((16 : Int) ≤ 1099511627776) ∧ (((8 : Nat) : Int) * 16 ≤ 140737488355328)))] ⟨(by refine ⟨rfl, ?_, ?_, ?_⟩ <;> omega), rfl, (by refine ⟨rfl, ?_, ?_, ?_⟩ <;> omega), trivial⟩ ?_
 refine ssets 4 (x := false) (z := 1) (L := (List.replicate (Int.toNat 16) (.u 0))) (L' := (m64 (List.replicate (Int.toNat 16) 0))) (by kernel_rfl) rep_map ?_
 refine sr [(1, .t)] 1 1 [(5, .sl false 1 (List.replicate (Int.toNat 16) (.u 0))), (4, .sl false 1 (m64 (List.replicate (Int.toNat 16) 0))), (4, .sl false 1 (List.replicate (Int.toNat 16) (.u 0))), (0, .f)] [((16 : Int) = 16) ∧ (((0 : Int) ≤ 16) ∧ (((16 : Int) ≤ 1099511627776) ∧ (((8 : Nat) : Int) * 16 ≤ 140737488355328))), (SV.sl false 1 (List.replicate (Int.toNat 16) (.u 0))) = SV.sl false 1 (List.replicate (Int.toNat 16) (.u 0)), ((16 : Int) = 16) ∧ (((0 : Int) ≤ 16) ∧ (((16 : Int) ≤ 1099511627776) ∧ (((8 : Nat) : Int) * 16 ≤ 140737488355328)))] ⟨(by refine ⟨rfl, ?_, ?_, ?_⟩ <;> omega), rfl, (by refine ⟨rfl, ?_, ?_, ?_⟩ <;> omega), trivial⟩ ?_
 refine ssets 5 (x := false) (z := 1) (L := (List.replicate (Int.toNat 16) (.u 0))) (L' := (m64 (List.replicate (Int.toNat 16) 0))) (by kernel_rfl) rep_map ?_
 refine sr [] 4 2 [(1, .p 0), (7, .agg (mm 16 (List.replicate (Int.toNat 16) 0) (List.replicate (Int.toNat 16) 0))), (6, .agg [.sl false 1 (m64 (List.replicate (Int.toNat 16) 0)), .sl false 1 (m64 (List.replicate (Int.toNat 16) 0))]), (5, .sl false 1 (m64 (List.replicate (Int.toNat 16) 0))), (5, .sl false 1 (List.replicate (Int.toNat 16) (.u 0))), (4, .sl false 1 (m64 (List.replicate (Int.toNat 16) 0))), (4, .sl false 1 (List.replicate (Int.toNat 16) (.u 0))), (0, .f)] [True, True, True, ([(0, .cells [.i 0, .nils, .nils] 25)] : Mem) = [(0, .cells [.i 0, .nils, .nils] 25)], (1 : Nat) = 1, True, ([(0, .cells (mm 16 (List.replicate (Int.toNat 16) 0) (List.replicate (Int.toNat 16) 0)) 25)] : Mem) = [(0, .cells (mm 16 (List.replicate (Int.toNat 16) 0) (List.replicate (Int.toNat 16) 0)) 25)], (1 : Nat) = 1] ⟨trivial, trivial, trivial, rfl, rfl, trivial, rfl, rfl, trivial⟩ ?_
 refine sen ?_
 refine an ?_
 refine xw_seq ?_
 refine reg ?_
 refine rk [] 2 0 ⟨[(10, .agg [.i 1, .i 2, .u 0]), (9, .agg (mm 16 (List.replicate (Int.toNat 16) 0) (List.replicate (Int.toNat 16) 0))), (1, .p 0), (0, .f)], [(0, .cells (mm 16 (List.replicate (Int.toNat 16) 0) (List.replicate (Int.toNat 16) 0)) 25)], 1⟩ [True] ⟨trivial, trivial⟩ ?_
 refine pc (oput_1 16 (List.replicate (Int.toNat 16) 0) (List.replicate (Int.toNat 16) 0) 4294967300 1 2 0 (by omega) (by first | omega | assumption | rfl | (rw [len_zx]; assumption) | (rw [len_zy]; assumption) | exact U64s.zx (by assumption) _ _ | exact U64s.zy (by assumption) _ _ | exact U64s.rep _ | decide | (simp; done)) (by first | omega | assumption | rfl | (rw [len_zx]; assumption) | (rw [len_zy]; assumption) | exact U64s.zx (by assumption) _ _ | exact U64s.zy (by assumption) _ _ | exact U64s.rep _ | decide | (simp; done)) (by first | omega | assumption | rfl | (rw [len_zx]; assumption) | (rw [len_zy]; assumption) | exact U64s.zx (by assumption) _ _ | exact U64s.zy (by assumption) _ _ | exact U64s.rep _ | decide | (simp; done)) (by first | omega | assumption | rfl | (rw [len_zx]; assumption) | (rw [len_zy]; assumption) | exact U64s.zx (by assumption) _ _ | exact U64s.zy (by assumption) _ _ | exact U64s.rep _ | decide | (simp; done)) (by omega) (by omega) (by omega) (by omega) (by first | omega | decide) (by omega) (by omega)) ?_
 obtain ⟨h0, h1, h2, h3, h4, h5⟩ := put_ok 16 (List.replicate (Int.toNat 16) 0) (List.replicate (Int.toNat 16) 0) 4294967300 1 2 0 (by first | omega | assumption | rfl | (rw [len_zx]; assumption) | (rw [len_zy]; assumption) | exact U64s.zx (by assumption) _ _ | exact U64s.zy (by assumption) _ _ | exact U64s.rep _ | decide | (simp; done)) (by first | omega | assumption | rfl | (rw [len_zx]; assumption) | (rw [len_zy]; assumption) | exact U64s.zx (by assumption) _ _ | exact U64s.zy (by assumption) _ _ | exact U64s.rep _ | decide | (simp; done)) (by first | omega | assumption | rfl | (rw [len_zx]; assumption) | (rw [len_zy]; assumption) | exact U64s.zx (by assumption) _ _ | exact U64s.zy (by assumption) _ _ | exact U64s.rep _ | decide | (simp; done)) (by first | omega | assumption | rfl | (rw [len_zx]; assumption) | (rw [len_zy]; assumption) | exact U64s.zx (by assumption) _ _ | exact U64s.zy (by assumption) _ _ | exact U64s.rep _ | decide | (simp; done)) (by omega) (by omega) (by omega) (by first | omega | decide) (by omega)
 refine rk [] 5 3 ⟨[(2, .i 0), (1, .p 0), (0, .f)], [(0, .cells (mm 16 (px (List.replicate (Int.toNat 16) 0) 4294967300 1 2 0) (py (List.replicate (Int.toNat 16) 0) 4294967300 1 2 0)) 25)], 1⟩ [True] ⟨trivial, trivial⟩ ?_
 refine en ?_
 refine an ?_
 refine xw_seq ?_
 refine reg ?_
 refine rk [] 1 0 ⟨[(15, .agg (mm 16 (px (List.replicate (Int.toNat 16) 0) 4294967300 1 2 0) (py (List.replicate (Int.toNat 16) 0) 4294967300 1 2 0))), (2, .i 0), (1, .p 0), (0, .f)], [(0, .cells (mm 16 (px (List.replicate (Int.toNat 16) 0) 4294967300 1 2 0) (py (List.replicate (Int.toNat 16) 0) 4294967300 1 2 0)) 25)], 1⟩ [True] ⟨trivial, trivial⟩ ?_
 by_cases h6 : ((0 : Int) ≤ 1) ∧ (1 < ((ldw (px (List.replicate (Int.toNat 16) 0) 4294967300 1 2 0) (py (List.replicate (Int.toNat 16) 0) 4294967300 1 2 0) 4294967300 / 4294967296) % 16777216))
 ·
  refine pc (oset_1 16 (px (List.replicate (Int.toNat 16) 0) 4294967300 1 2 0) (py (List.replicate (Int.toNat 16) 0) 4294967300 1 2 0) 4294967300 1 9 (by omega) ‹_› ‹_› ‹_› ‹_› (by omega) (by omega) (by omega) ‹_› (by omega) (by omega)) ?_
  obtain ⟨h7, h8, h9⟩ := oErr_ok 16 (px (List.replicate (Int.toNat 16) 0) 4294967300 1 2 0) (py (List.replicate (Int.toNat 16) 0) 4294967300 1 2 0) 4294967300 ‹_›
  obtain ⟨h10, h11, h12, h13⟩ := stx_ok 16 (px (List.replicate (Int.toNat 16) 0) 4294967300 1 2 0) (py (List.replicate (Int.toNat 16) 0) 4294967300 1 2 0) (4294967300 + 2 + 1) 9 ‹_› ‹_› ‹_› ‹_› (by omega)
  have h14 : (ix (stx (px (List.replicate (Int.toNat 16) 0) 4294967300 1 2 0) (4294967300 + 2 + 1) 9) 7) = 9 := ix_stx (by omega) (by omega) (by omega)
  refine rk [] 5 2 ⟨[(3, .i 0), (2, .i 0), (1, .p 0), (0, .f)], [(0, .cells (mm 16 (stx (px (List.replicate (Int.toNat 16) 0) 4294967300 1 2 0) (4294967300 + 2 + 1) 9) (sty (py (List.replicate (Int.toNat 16) 0) 4294967300 1 2 0) (4294967300 + 2 + 1) 9)) 25)], 1⟩ [True] ⟨trivial, trivial⟩ ?_
  refine en ?_
  refine an ?_
  refine xw_seq ?_
  refine reg ?_
  refine rk [(1, .t), (4, .t), (10, .i (((stx (px (List.replicate (Int.toNat 16) 0) 4294967300 1 2 0) (4294967300 + 2 + 1) 9)).length : Int)), (11, .bool ((((stx (px (List.replicate (Int.toNat 16) 0) 4294967300 1 2 0) (4294967300 + 2 + 1) 9)).length : Int) == 16))] 14 0 ⟨[(32, .bool ((((stx (px (List.replicate (Int.toNat 16) 0) 4294967300 1 2 0) (4294967300 + 2 + 1) 9)).length : Int) == 16)), (1, .p 0), (0, .f)], [(0, .cells (mm 16 (stx (px (List.replicate (Int.toNat 16) 0) 4294967300 1 2 0) (4294967300 + 2 + 1) 9) (sty (py (List.replicate (Int.toNat 16) 0) 4294967300 1 2 0) (4294967300 + 2 + 1) 9)) 25)], 1⟩ [(0 == 0) = true, (0 == 0) = true, True, (0 : Int) ≤ 0 ∧ 0 < ((2 : Nat) : Int), True, ((((m64 (stx (px (List.replicate (Int.toNat 16) 0) 4294967300 1 2 0) (4294967300 + 2 + 1) 9))).length : Nat) : Int) = (((stx (px (List.replicate (Int.toNat 16) 0) 4294967300 1 2 0) (4294967300 + 2 + 1) 9)).length : Int), ((((stx (px (List.replicate (Int.toNat 16) 0) 4294967300 1 2 0) (4294967300 + 2 + 1) 9)).length : Int) == 16) = ((((stx (px (List.replicate (Int.toNat 16) 0) 4294967300 1 2 0) (4294967300 + 2 + 1) 9)).length : Int) == 16), True] ⟨beq_iff_eq.2 (by omega), beq_iff_eq.2 (by omega), trivial, (by constructor <;> omega), trivial, (by simp), rfl, trivial, trivial⟩ ?_
  refine splitr 32 (x := ((((stx (px (List.replicate (Int.toNat 16) 0) 4294967300 1 2 0) (4294967300 + 2 + 1) 9)).length : Int) == 16)) (by kernel_rfl) (fun h15 => ?_) (fun h15 => ?_)
  ·
   replace h15 : (((stx (px (List.replicate (Int.toNat 16) 0) 4294967300 1 2 0) (4294967300 + 2 + 1) 9)).length : Int) = 16 := eq_of_beq h15
   refine rk [(17, .u (ix (stx (px (List.replicate (Int.toNat 16) 0) 4294967300 1 2 0) (4294967300 + 2 + 1) 9) 7))] 4 14 ⟨[(36, .elt (.u (ix (stx (px (List.replicate (Int.toNat 16) 0) 4294967300 1 2 0) (4294967300 + 2 + 1) 9) 7))), (32, .t), (0, .f)], [], 1⟩ [(0 : Int) ≤ 0 ∧ 0 < ((2 : Nat) : Int), True, (0 : Int) ≤ 7 ∧ 7 < ((((m64 (stx (px (List.replicate (Int.toNat 16) 0) 4294967300 1 2 0) (4294967300 + 2 + 1) 9))).length : Nat) : Int) ∧ ((m64 (stx (px (List.replicate (Int.toNat 16) 0) 4294967300 1 2 0) (4294967300 + 2 + 1) 9)))[(7 : Int).toNat]? = some (.u (ix (stx (px (List.replicate (Int.toNat 16) 0) 4294967300 1 2 0) (4294967300 + 2 + 1) 9) 7))] ⟨(by constructor <;> omega), trivial, (ix_ok (by omega) (by first | omega | (simp only [len_st]; omega) | (simp; done) | (simp; omega) | (simp [len_st, len_stx, len_sty, len_zx, len_zy]; omega))), trivial⟩ ?_
   have h16 : 0 ≤ (ix (stx (px (List.replicate (Int.toNat 16) 0) 4294967300 1 2 0) (4294967300 + 2 + 1) 9) 7) ∧ (ix (stx (px (List.replicate (Int.toNat 16) 0) 4294967300 1 2 0) (4294967300 + 2 + 1) 9) 7) ≤ 18446744073709551615 := U64s.ix (by first | assumption | exact U64s.st (by assumption) _ (by omega)) _
   refine rk [(19, .t)] 4 18 ⟨[(0, .t)], [], 1⟩ [True, ((ix (stx (px (List.replicate (Int.toNat 16) 0) 4294967300 1 2 0) (4294967300 + 2 + 1) 9) 7) == 9) = true, True] ⟨trivial, beq_iff_eq.2 (by omega), trivial, trivial⟩ ?_
   refine en ?_
   refine an ?_
   refine xw_ret ?_
   exact bs (.t) rfl
  ·
   replace h15 : (((stx (px (List.replicate (Int.toNat 16) 0) 4294967300 1 2 0) (4294967300 + 2 + 1) 9)).length : Int) ≠ 16 := ne_of_beq_false h15
   refine rk [] 8 14 ⟨[(0, .f)], [], 1⟩ [True] ⟨trivial, trivial⟩ ?_
   refine en ?_
   refine an ?_
   refine xw_ret ?_
   exact bk_ret (.f) (.f) (.t) (by kernel_rfl) (by kernel_rfl) (wkd [false = true] (by kernel_rfl) ⟨(by first | exact decide_eq_true (by omega) | exact decide_eq_false (by omega) | (simp; done) | (simp; omega) | simp_all | grind), trivial⟩) rfl
 ·
  refine pc (oset_2 16 (px (List.replicate (Int.toNat 16) 0) 4294967300 1 2 0) (py (List.replicate (Int.toNat 16) 0) 4294967300 1 2 0) 4294967300 1 9 (by omega) ‹_› ‹_› ‹_› ‹_› (by omega) (by omega) (by omega) ‹_› (by omega) (by omega)) ?_
  obtain ⟨h7, h8, h9⟩ := oErr_ok 16 (px (List.replicate (Int.toNat 16) 0) 4294967300 1 2 0) (py (List.replicate (Int.toNat 16) 0) 4294967300 1 2 0) 4294967300 ‹_›
  refine rk [] 5 2 ⟨[(3, .i 7), (2, .i 0), (1, .p 0), (0, .f)], [(0, .cells (mm 16 (px (List.replicate (Int.toNat 16) 0) 4294967300 1 2 0) (py (List.replicate (Int.toNat 16) 0) 4294967300 1 2 0)) 25)], 1⟩ [True] ⟨trivial, trivial⟩ ?_
  refine en ?_
  refine an ?_
  refine rg [(1, .t), (4, .f)] 22 ⟨[(0, .f)], [], 1⟩ [(0 == 0) = true, (7 == 0) = false, True, True, True] ⟨beq_iff_eq.2 (by omega), beq_eq_false_iff_ne.2 (by omega), trivial, trivial, trivial, trivial⟩ ?_
  refine xw_ret ?_
  exact bk_ret (.f) (.f) (.t) (by kernel_rfl) (by kernel_rfl) (wkd [false = true] (by kernel_rfl) ⟨(by first | exact decide_eq_true (by omega) | exact decide_eq_false (by omega) | (simp; done) | (simp; omega) | simp_all | grind), trivial⟩) rfl

end Go.Proofs.Ytcjcljbhjkedgaa.X
