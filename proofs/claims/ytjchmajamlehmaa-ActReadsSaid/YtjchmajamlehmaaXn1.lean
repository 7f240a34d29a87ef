/- Contracts of Go functions: what each returns, for every input that its premises name; no memory of the caller is touched. Printed by a program. -/
import Derived.Test.YtjchmajamlehmaaXn7
namespace Go.Proofs.Ytjchmajamlehmaa.X
open Go Go.RowKit
set_option linter.unusedVariables false      -- a premise may serve only to tell which way is taken
set_option linter.unusedSimpArgs false
set_option maxHeartbeats 8000000 in
theorem shown17  : Pub Try.prog 8 [] (fun rv => rv = .t) := by
 refine pub_of TT_ok Try.func8 rfl (by decide) (Nat.le_of_ble_eq_true (by kernel_rfl)) (by kernel_rfl) ?_
 refine rgi [] 1 [0] [] [] trivial ?_
 refine xw_seq ?_
 refine sreg hmix [([], 0), ([(0, .cells [.i 0, .nils, .nils] 25)], 1), ([(0, .cells (mm 16 (List.replicate (Int.toNat 16) 0) (List.replicate (Int.toNat 16) 0)) 25)], 1)] [4, 5] [(2, [0, 1]), (3, [0, 1, 2]), (5, [0, 1, 2, 3, 4])] (by kernel_rfl) (by kernel_rfl) (by kernel_rfl) (by kernel_rfl) (by kernel_rfl) ?_
 refine sri [(0, .t)] 1 0 [((16 : Int) = 16) ∧ (((0 : Int) ≤ 16) ∧ (((16 : Int) ≤ 1099511627776) ∧ (((8 : Nat) : Int) * 16 ≤ 140737488355328))), sm (SV.sl false 1 (List.replicate (Int.toNat 16) (.u 0))), ((16 : Int) = 16) ∧ (((0 : Int) ≤ 16) ∧ (((16 : Int) ≤ 1099511627776) ∧ (((8 : Nat) : Int) * 16 ≤ 140737488355328)))] ⟨(by refine ⟨rfl, ?_, ?_, ?_⟩ <;> omega), rfl, (by refine ⟨rfl, ?_, ?_, ?_⟩ <;> omega), trivial⟩ ?_
 refine ssets 4 (x := false) (z := 1) (L := (List.replicate (Int.toNat 16) (.u 0))) (L' := (m64 (List.replicate (Int.toNat 16) 0))) (by kernel_rfl) rep_map ?_
 refine sri [(1, .t)] 1 1 [((16 : Int) = 16) ∧ (((0 : Int) ≤ 16) ∧ (((16 : Int) ≤ 1099511627776) ∧ (((8 : Nat) : Int) * 16 ≤ 140737488355328))), sm (SV.sl false 1 (List.replicate (Int.toNat 16) (.u 0))), ((16 : Int) = 16) ∧ (((0 : Int) ≤ 16) ∧ (((16 : Int) ≤ 1099511627776) ∧ (((8 : Nat) : Int) * 16 ≤ 140737488355328)))] ⟨(by refine ⟨rfl, ?_, ?_, ?_⟩ <;> omega), rfl, (by refine ⟨rfl, ?_, ?_, ?_⟩ <;> omega), trivial⟩ ?_
 refine ssets 5 (x := false) (z := 1) (L := (List.replicate (Int.toNat 16) (.u 0))) (L' := (m64 (List.replicate (Int.toNat 16) 0))) (by kernel_rfl) rep_map ?_
 refine sri [] 4 2 [True, True, True, sm ([(0, .cells [.i 0, .nils, .nils] 25)] : Mem), sm (1 : Nat), True, sm ([(0, .cells (mm 16 (List.replicate (Int.toNat 16) 0) (List.replicate (Int.toNat 16) 0)) 25)] : Mem), sm (1 : Nat)] ⟨trivial, trivial, trivial, rfl, rfl, trivial, rfl, rfl, trivial⟩ ?_
 refine sen ?_
 refine an ?_
 refine xw_seq ?_
 refine reg ?_
 refine rk [(4, .t)] 6 0 ⟨[(13, .agg [.nils, .i 0, .i 0, .nils, .sl false 8 (List.map opS [(OpV.mk 11 0 0 0 0 0 0 0)]), .nils, .f, .nils]), (10, .agg [.i 1, .i 0, .i 16]), (9, .agg [.i 0, .i 0, .i 16]), (8, .agg (mm 16 (List.replicate (Int.toNat 16) 0) (List.replicate (Int.toNat 16) 0))), (0, .f)], [], 1⟩ [True] ⟨trivial, trivial⟩ ?_
 refine xo_le (s' := ⟨[(13, .agg [.sl false 1 (m64 []), .i 0, .i 0, .sl false 2 (List.map entS []), .sl false 8 (List.map opS [(OpV.mk 11 0 0 0 0 0 0 0)]), .sl false 2 (List.map entS []), .f, .sl false 3 (List.map ansS [])]), (10, .agg [.i 1, .i 0, .i 16]), (9, .agg [.i 0, .i 0, .i 16]), (8, .agg (mm 16 (List.replicate (Int.toNat 16) 0) (List.replicate (Int.toNat 16) 0))), (0, .f)], [], 1⟩) (le_of [] [((m64 []) : List SV) = [], (0 : Int) = 0, (0 : Int) = 0, ((List.map entS []) : List SV) = [], (false = true → false = true), ((List.map opS [(OpV.mk 11 0 0 0 0 0 0 0)]) : List SV) = (List.map opS [(OpV.mk 11 0 0 0 0 0 0 0)]), ((List.map entS []) : List SV) = [], false = false, ((List.map ansS []) : List SV) = [], (1 : Int) = 1, (0 : Int) = 0, (16 : Int) = 16, (0 : Int) = 0, (0 : Int) = 0, (16 : Int) = 16, (16 : Int) = 16, (false = true → false = true), ((m64 (List.replicate (Int.toNat 16) 0)) : List SV) = (m64 (List.replicate (Int.toNat 16) 0)), (false = true → false = true), ((m64 (List.replicate (Int.toNat 16) 0)) : List SV) = (m64 (List.replicate (Int.toNat 16) 0)), false = false] (by kernel_rfl) ⟨rfl, rfl, rfl, rfl, id, rfl, rfl, rfl, rfl, rfl, rfl, rfl, rfl, rfl, rfl, rfl, id, rfl, id, rfl, rfl, trivial⟩) ?_
 refine rki [(6, .t)] 4 6 [2, 0] [1] [True] ⟨trivial, trivial⟩ ?_
 refine en ?_
 refine an ?_
 refine xw_seq ?_
 refine reg ?_
 refine rki [] 1 0 [16, 2, 0] [1] [True] ⟨trivial, trivial⟩ ?_
 have h0 : Ths tsh := ths_sh
 have h1 : Bfs tsh 0 := bfs_sh
 refine pcall (args := [.agg (mr 16 (List.replicate (Int.toNat 16) 0) (List.replicate (Int.toNat 16) 0) [.i 0, .i 0, .i 16, .i 1, .i 0, .i 16, .i 0, .i 4, (sT tsh), .i 0, .i 0, .i 0, .nils, .i 0]), .i 0]) (args' := [.agg (mr 16 (List.replicate (Int.toNat 16) 0) (List.replicate (Int.toNat 16) 0) [.i 0, .i 0, .i 16, .i 1, .i 0, .i 16, .i 0, .i 4, (sT tsh), .i 0, .i 0, .i 0, .sl false 1 (List.map (SV.int .i64) []), .i 0]), .i 0]) (d := (some 17)) (by kernel_rfl) (ado 16 (List.replicate (Int.toNat 16) 0) (List.replicate (Int.toNat 16) 0) 0 0 16 1 0 16 0 4 tsh 0 0 0 [] 0 0 (by omega) (by first | omega | assumption | rfl | (rw [len_zx]; assumption) | (rw [len_zy]; assumption) | exact U64s.zx (by assumption) _ _ | exact U64s.zy (by assumption) _ _ | exact U64s.rep _ | decide | (simp; done) | (intro x hx; cases hx) | exact U64s.rep _) (by first | omega | assumption | rfl | (rw [len_zx]; assumption) | (rw [len_zy]; assumption) | exact U64s.zx (by assumption) _ _ | exact U64s.zy (by assumption) _ _ | exact U64s.rep _ | decide | (simp; done) | (intro x hx; cases hx) | exact U64s.rep _) (by omega) (by omega) (by omega) (by omega) (by omega) (by omega) (by omega) (by omega) ‹_› (by first | omega | assumption | rfl | (rw [len_zx]; assumption) | (rw [len_zy]; assumption) | exact U64s.zx (by assumption) _ _ | exact U64s.zy (by assumption) _ _ | exact U64s.rep _ | decide | (simp; done) | (intro x hx; cases hx) | exact U64s.rep _) (by omega) (by omega) (by omega) (by first | omega | assumption | rfl | (rw [len_zx]; assumption) | (rw [len_zy]; assumption) | exact U64s.zx (by assumption) _ _ | exact U64s.zy (by assumption) _ _ | exact U64s.rep _ | decide | (simp; done) | (intro x hx; cases hx) | exact U64s.rep _) (by first | omega | assumption | rfl | (rw [len_zx]; assumption) | (rw [len_zy]; assumption) | exact U64s.zx (by assumption) _ _ | exact U64s.zy (by assumption) _ _ | exact U64s.rep _ | decide | (simp; done) | (intro x hx; cases hx) | exact U64s.rep _) (by omega) (by omega) (by first | omega | assumption | rfl | (rw [len_zx]; assumption) | (rw [len_zy]; assumption) | exact U64s.zx (by assumption) _ _ | exact U64s.zy (by assumption) _ _ | exact U64s.rep _ | decide | (simp; done) | (intro x hx; cases hx) | exact U64s.rep _) ⟨(by omega), (by omega), (by omega), (by omega), rfl⟩ (by omega) ‹_›) [(16 : Int) = 16, (false = true → false = true), ((m64 (List.replicate (Int.toNat 16) 0)) : List SV) = (m64 (List.replicate (Int.toNat 16) 0)), (false = true → false = true), ((m64 (List.replicate (Int.toNat 16) 0)) : List SV) = (m64 (List.replicate (Int.toNat 16) 0)), (0 : Int) = 0, (0 : Int) = 0, (16 : Int) = 16, (1 : Int) = 1, (0 : Int) = 0, (16 : Int) = 16, (0 : Int) = 0, (4 : Int) = 4, (false = true → false = true), ((List.map thS tsh) : List SV) = (List.map thS tsh), (0 : Int) = 0, (0 : Int) = 0, (0 : Int) = 0, ((List.map (SV.int .i64) []) : List SV) = [], (0 : Int) = 0, (0 : Int) = 0] (by kernel_rfl) ⟨rfl, id, rfl, id, rfl, rfl, rfl, rfl, rfl, rfl, rfl, rfl, rfl, id, rfl, rfl, rfl, rfl, rfl, rfl, rfl, trivial⟩ (by kernel_rfl) ?_
 rintro _ (⟨h2, rfl⟩ | ⟨h2, h3, rfl⟩ | ⟨X12, Y13, F14, st15, p16, q17, pd18, e19, v110, yes111, wt112, h13, h14, h15, h16, rfl⟩ | ⟨X12, Y13, F14, st15, p16, q17, pd18, e19, v110, yes111, wt112, h13, h14, h15, h16, rfl⟩)
 ·
  have h3 : (0 : Int) = 1 := absurd ‹(canB 4 0 0 tsh 0) = false› (by decide)
  exfalso; first | omega | (simp_all; done) | (simp_all; omega) | grind
 ·
  have h4 : (0 : Int) = 1 := absurd ‹0 < ((Th.pd (thA tsh 0)).length : Int)› (by decide)
  exfalso; first | omega | (simp_all; done) | (simp_all; omega) | grind
 ·
  have h17 : (tsh.length : Int) = 1 := rfl
  have h18 : (X12.length : Int) = 16 := h13.1.1
  have h19 : (Y13.length : Int) = 16 := h13.1.2.1
  have h20 : U64s X12 := h13.1.2.2.1
  have h21 : U64s Y13 := h13.1.2.2.2
  have h22 : 0 ≤ F14 ∧ F14 ≤ 16 := h13.2.1
  have h23 : U64s st15 := h13.2.2.1.1
  have h24 : (st15.length : Int) * 8 ≤ 140737488355000 := h13.2.2.1.2
  have h25 : (p16 = 0 ∧ q17 = 0) ∨ (0 ≤ p16 ∧ p16 ≤ q17 ∧ q17 ≤ F14) := h13.2.2.2.1
  have h26 : Ents pd18 := h13.2.2.2.2.1.1
  have h27 : (pd18.length : Int) ≤ 1 := h13.2.2.2.2.1.2
  have h28 : 0 ≤ e19 ∧ e19 ≤ 100 := h13.2.2.2.2.2.1.1
  have h29 : 0 ≤ v110 ∧ v110 ≤ 18446744073709551615 := h13.2.2.2.2.2.1.2
  have h30 : Ths (tW tsh 0 st15 p16 q17 pd18 wt112) := (ths_set ‹_› (th_work (Ths.at ‹_› 0) ‹_› (by omega) (by omega) (by omega) ‹_› (by omega)))
  have h31 : ((tW tsh 0 st15 p16 q17 pd18 wt112).length : Int) = (tsh.length : Int) := len_set
  have h32 : ((Th.dn (thA (tW tsh 0 st15 p16 q17 pd18 wt112) 0)).length : Int) = ((Th.dn (thA tsh 0)).length : Int) := (by rw [th_set (by omega) (by omega)]; try first | assumption | (simp; done) | (simp; omega))
  have h33 : ((Th.lf (thA (tW tsh 0 st15 p16 q17 pd18 wt112) 0)).length : Int) = ((Th.lf (thA tsh 0)).length : Int) := (by rw [th_set (by omega) (by omega)]; try first | assumption | (simp; done) | (simp; omega))
  have h34 : ((Th.lg (thA (tW tsh 0 st15 p16 q17 pd18 wt112) 0)).length : Int) = ((Th.lg (thA tsh 0)).length : Int) := (by rw [th_set (by omega) (by omega)]; try first | assumption | (simp; done) | (simp; omega))
  have h35 : ((Th.pd (thA (tW tsh 0 st15 p16 q17 pd18 wt112) 0)).length : Int) = ((pd18).length : Int) := (by rw [th_set (by omega) (by omega)]; try first | assumption | (simp; done) | (simp; omega))
  have h36 : (Th.wt (thA (tW tsh 0 st15 p16 q17 pd18 wt112) 0)) = true := (by rw [th_set (by omega) (by omega)]; try first | assumption | (simp; done) | (simp; omega))
  have h37 : ((pd18).length : Int) = 0 := (h13.2.2.2.2.2.2.1.resolve_left (by decide)).resolve_left (by decide) |>.2.2.2
  have h38 : (canB 4 0 0 (tW tsh 0 st15 p16 q17 pd18 wt112) 0) = false := can_w (by omega) rfl (by omega) ‹_›
  refine rki [] 2 2 [3, 2, 0] [2, 1] [True] ⟨trivial, trivial⟩ ?_
  refine en ?_
  refine an ?_
  refine xw_seq ?_
  refine reg ?_
  refine rk [] 1 0 ⟨[(18, .agg (mr 16 (List.replicate (Int.toNat 16) 0) (List.replicate (Int.toNat 16) 0) [.i 0, .i 0, .i 16, .i 1, .i 0, .i 16, .i 0, .i 4, (sT tsh), .i 0, .i 0, .i 0, .nils, .i 0])), (3, .p 2), (0, .f)], [(2, .cells (mr 16 X12 Y13 [.i 0, .i F14, .i 16, .i 1, .i 0, .i 16, .i 0, .i 4, (sT (tW tsh 0 st15 p16 q17 pd18 wt112)), .i 0, .i 0, .i 0, .sl false 1 (List.map (SV.int .i64) []), .i 0]) 32)], 3⟩ [True] ⟨trivial, trivial⟩ ?_
  refine pcall1 (args := [.agg (mr 16 (List.replicate (Int.toNat 16) 0) (List.replicate (Int.toNat 16) 0) [.i 0, .i 0, .i 16, .i 1, .i 0, .i 16, .i 0, .i 4, (sT tsh), .i 0, .i 0, .i 0, .nils, .i 0]), .i 0]) (args' := [.agg (mr 16 (List.replicate (Int.toNat 16) 0) (List.replicate (Int.toNat 16) 0) [.i 0, .i 0, .i 16, .i 1, .i 0, .i 16, .i 0, .i 4, (sT tsh), .i 0, .i 0, .i 0, .sl false 1 (List.map (SV.int .i64) []), .i 0]), .i 0]) (d := (some 19)) (sv := .t) (by kernel_rfl) (acan_2 16 (List.replicate (Int.toNat 16) 0) (List.replicate (Int.toNat 16) 0) 0 0 16 1 0 16 0 4 tsh 0 0 0 [] 0 0 (by omega) (by first | omega | assumption | rfl | (rw [len_zx]; assumption) | (rw [len_zy]; assumption) | exact U64s.zx (by assumption) _ _ | exact U64s.zy (by assumption) _ _ | exact U64s.rep _ | decide | (simp; done) | (intro x hx; cases hx) | exact U64s.rep _) (by first | omega | assumption | rfl | (rw [len_zx]; assumption) | (rw [len_zy]; assumption) | exact U64s.zx (by assumption) _ _ | exact U64s.zy (by assumption) _ _ | exact U64s.rep _ | decide | (simp; done) | (intro x hx; cases hx) | exact U64s.rep _) (by omega) (by omega) (by omega) (by omega) (by omega) (by omega) (by omega) (by omega) ‹_› (by omega) (by omega) (by omega) (by omega) (by first | omega | assumption | rfl | (rw [len_zx]; assumption) | (rw [len_zy]; assumption) | exact U64s.zx (by assumption) _ _ | exact U64s.zy (by assumption) _ _ | exact U64s.rep _ | decide | (simp; done) | (intro x hx; cases hx) | exact U64s.rep _) (by first | omega | assumption | rfl | (rw [len_zx]; assumption) | (rw [len_zy]; assumption) | exact U64s.zx (by assumption) _ _ | exact U64s.zy (by assumption) _ _ | exact U64s.rep _ | decide | (simp; done) | (intro x hx; cases hx) | exact U64s.rep _) (by omega) (by omega) ‹_›) [(16 : Int) = 16, (false = true → false = true), ((m64 (List.replicate (Int.toNat 16) 0)) : List SV) = (m64 (List.replicate (Int.toNat 16) 0)), (false = true → false = true), ((m64 (List.replicate (Int.toNat 16) 0)) : List SV) = (m64 (List.replicate (Int.toNat 16) 0)), (0 : Int) = 0, (0 : Int) = 0, (16 : Int) = 16, (1 : Int) = 1, (0 : Int) = 0, (16 : Int) = 16, (0 : Int) = 0, (4 : Int) = 4, (false = true → false = true), ((List.map thS tsh) : List SV) = (List.map thS tsh), (0 : Int) = 0, (0 : Int) = 0, (0 : Int) = 0, ((List.map (SV.int .i64) []) : List SV) = [], (0 : Int) = 0, (0 : Int) = 0] (by kernel_rfl) ⟨rfl, id, rfl, id, rfl, rfl, rfl, rfl, rfl, rfl, rfl, rfl, rfl, id, rfl, rfl, rfl, rfl, rfl, rfl, rfl, trivial⟩ (by kernel_rfl) ?_
  have h39 : (0 : Int) ≤ 0 ∧ 0 < (tsh.length : Int) := (can_is ‹_›).1
  have h40 : (0 : Int) = 0 := (can_is ‹_›).2.1
  have h41 : 0 < ((Th.pd (thA tsh 0)).length : Int) ∨ (((Th.pd (thA tsh 0)).length : Int) = 0 ∧ 0 < ((Th.lf (thA tsh 0)).length : Int) ∧ (0 : Int) ≠ 2) := can_nx ‹_›
  refine rki [] 2 2 [21, 20, 3, 0] [2] [True] ⟨trivial, trivial⟩ ?_
  refine pcall1 (args := [.agg (mr 16 X12 Y13 [.i 0, .i F14, .i 16, .i 1, .i 0, .i 16, .i 0, .i 4, (sT (tW tsh 0 st15 p16 q17 pd18 wt112)), .i 0, .i 0, .i 0, .sl false 1 (List.map (SV.int .i64) []), .i 0]), .i 0]) (args' := [.agg (mr 16 X12 Y13 [.i 0, .i F14, .i 16, .i 1, .i 0, .i 16, .i 0, .i 4, (sT (tW tsh 0 st15 p16 q17 pd18 wt112)), .i 0, .i 0, .i 0, .sl false 1 (List.map (SV.int .i64) []), .i 0]), .i 0]) (d := (some 22)) (sv := .f) (by kernel_rfl) (acan_1 16 X12 Y13 0 F14 16 1 0 16 0 4 (tW tsh 0 st15 p16 q17 pd18 wt112) 0 0 0 [] 0 0 (by omega) ‹_› ‹_› (by omega) (by omega) (by omega) (by omega) (by omega) (by omega) (by omega) (by omega) ‹_› (by omega) (by omega) (by omega) (by omega) (by first | omega | assumption | rfl | (rw [len_zx]; assumption) | (rw [len_zy]; assumption) | exact U64s.zx (by assumption) _ _ | exact U64s.zy (by assumption) _ _ | exact U64s.rep _ | decide | (simp; done) | (intro x hx; cases hx) | exact U64s.rep _) (by first | omega | assumption | rfl | (rw [len_zx]; assumption) | (rw [len_zy]; assumption) | exact U64s.zx (by assumption) _ _ | exact U64s.zy (by assumption) _ _ | exact U64s.rep _ | decide | (simp; done) | (intro x hx; cases hx) | exact U64s.rep _) (by omega) (by omega) ‹_›) [(16 : Int) = 16, (false = true → false = true), ((m64 X12) : List SV) = (m64 X12), (false = true → false = true), ((m64 Y13) : List SV) = (m64 Y13), (0 : Int) = 0, (F14 : Int) = F14, (16 : Int) = 16, (1 : Int) = 1, (0 : Int) = 0, (16 : Int) = 16, (0 : Int) = 0, (4 : Int) = 4, (false = true → false = true), ((List.map thS (tW tsh 0 st15 p16 q17 pd18 wt112)) : List SV) = (List.map thS (tW tsh 0 st15 p16 q17 pd18 wt112)), (0 : Int) = 0, (0 : Int) = 0, (0 : Int) = 0, (false = true → false = true), ((List.map (SV.int .i64) []) : List SV) = (List.map (SV.int .i64) []), (0 : Int) = 0, (0 : Int) = 0] (by kernel_rfl) ⟨rfl, id, rfl, id, rfl, rfl, rfl, rfl, rfl, rfl, rfl, rfl, rfl, id, rfl, rfl, rfl, rfl, id, rfl, rfl, rfl, trivial⟩ (by kernel_rfl) ?_
  refine rki [(10, .i (((tW tsh 0 st15 p16 q17 pd18 wt112)).length : Int)), (11, .t), (16, .agg (tc (thA (tW tsh 0 st15 p16 q17 pd18 wt112) 0)))] 12 5 [34, 31, 0] [] [True, True, ((((List.map thS (tW tsh 0 st15 p16 q17 pd18 wt112))).length : Nat) : Int) = (((tW tsh 0 st15 p16 q17 pd18 wt112)).length : Int), ((((tW tsh 0 st15 p16 q17 pd18 wt112)).length : Int) == 1) = true, True, True, (0 : Int) ≤ 0 ∧ 0 < ((((List.map thS (tW tsh 0 st15 p16 q17 pd18 wt112))).length : Nat) : Int) ∧ ((List.map thS (tW tsh 0 st15 p16 q17 pd18 wt112)))[(0 : Int).toNat]? = some (.agg (tc (thA (tW tsh 0 st15 p16 q17 pd18 wt112) 0)))] ⟨trivial, trivial, (by simp), beq_iff_eq.2 (by omega), trivial, trivial, (ix_th (by omega) (by first | omega | (simp only [len_st]; omega) | (simp; done) | (simp; omega) | (simp [len_st, len_stx, len_sty, len_zx, len_zy]; omega))), trivial⟩ ?_
  have h42 : U64s (Th.st (thA (tW tsh 0 st15 p16 q17 pd18 wt112) 0)) := (Ths.at (by first | assumption | exact U64s.st (by assumption) _ (by omega)) _).1
  have h43 : ((Th.st (thA (tW tsh 0 st15 p16 q17 pd18 wt112) 0)).length : Int) * 8 ≤ 140737488355000 := (Ths.at (by first | assumption | exact U64s.st (by assumption) _ (by omega)) _).2.1
  have h44 : (-9223372036854775808 ≤ (Th.b0 (thA (tW tsh 0 st15 p16 q17 pd18 wt112) 0)) ∧ (Th.b0 (thA (tW tsh 0 st15 p16 q17 pd18 wt112) 0)) ≤ 9223372036854775807) := (Ths.at (by first | assumption | exact U64s.st (by assumption) _ (by omega)) _).2.2.1
  have h45 : (-9223372036854775808 ≤ (Th.b1 (thA (tW tsh 0 st15 p16 q17 pd18 wt112) 0)) ∧ (Th.b1 (thA (tW tsh 0 st15 p16 q17 pd18 wt112) 0)) ≤ 9223372036854775807) := (Ths.at (by first | assumption | exact U64s.st (by assumption) _ (by omega)) _).2.2.2.1
  have h46 : Ents (Th.lg (thA (tW tsh 0 st15 p16 q17 pd18 wt112) 0)) := (Ths.at (by first | assumption | exact U64s.st (by assumption) _ (by omega)) _).2.2.2.2.1
  have h47 : ((Th.lg (thA (tW tsh 0 st15 p16 q17 pd18 wt112) 0)).length : Int) * 16 ≤ 140737488355000 := (Ths.at (by first | assumption | exact U64s.st (by assumption) _ (by omega)) _).2.2.2.2.2.1
  have h48 : Ops (Th.lf (thA (tW tsh 0 st15 p16 q17 pd18 wt112) 0)) := (Ths.at (by first | assumption | exact U64s.st (by assumption) _ (by omega)) _).2.2.2.2.2.2.1
  have h49 : ((Th.lf (thA (tW tsh 0 st15 p16 q17 pd18 wt112) 0)).length : Int) * 64 ≤ 140737488355000 := (Ths.at (by first | assumption | exact U64s.st (by assumption) _ (by omega)) _).2.2.2.2.2.2.2.1
  have h50 : Ents (Th.pd (thA (tW tsh 0 st15 p16 q17 pd18 wt112) 0)) := (Ths.at (by first | assumption | exact U64s.st (by assumption) _ (by omega)) _).2.2.2.2.2.2.2.2.1
  have h51 : ((Th.pd (thA (tW tsh 0 st15 p16 q17 pd18 wt112) 0)).length : Int) * 16 ≤ 140737488355000 := (Ths.at (by first | assumption | exact U64s.st (by assumption) _ (by omega)) _).2.2.2.2.2.2.2.2.2.1
  have h52 : Anss (Th.dn (thA (tW tsh 0 st15 p16 q17 pd18 wt112) 0)) := (Ths.at (by first | assumption | exact U64s.st (by assumption) _ (by omega)) _).2.2.2.2.2.2.2.2.2.2.1
  have h53 : ((Th.dn (thA (tW tsh 0 st15 p16 q17 pd18 wt112) 0)).length : Int) * 24 ≤ 140737488355000 := (Ths.at (by first | assumption | exact U64s.st (by assumption) _ (by omega)) _).2.2.2.2.2.2.2.2.2.2.2
  refine rki [] 4 17 [0] [] [True, True] ⟨trivial, trivial, trivial⟩ ?_
  refine en ?_
  refine an ?_
  refine xw_ret ?_
  exact br (.bool (Th.wt (thA (tW tsh 0 st15 p16 q17 pd18 wt112) 0))) (.t) (wkd [(Th.wt (thA (tW tsh 0 st15 p16 q17 pd18 wt112) 0)) = true] (by kernel_rfl) ⟨(by first | exact decide_eq_true (by omega) | exact decide_eq_false (by omega) | (simp; done) | (simp; omega) | (simp_all; done) | (simp_all; omega) | grind), trivial⟩) rfl
 ·
  have h17 : (0 : Int) = 1 := absurd (h13.2.2.2.2.2.2.2.2 (by decide)) (by rw [‹wt112 = false›]; decide)
  exfalso; first | omega | (simp_all; done) | (simp_all; omega) | grind

set_option maxHeartbeats 8000000 in
theorem hrightB (W : Int) (xs ys : List Int) (f0 f1 f2 t0 t1 t2 sz lm : Int) (ts : List Th) (ph scn fl : Int) (os : List Int) (brk : Int) (hp0 : -9223372036854775808 ≤ W ∧ W ≤ 9223372036854775807) (hp1 : U64s xs) (hp2 : U64s ys) (hp3 : -9223372036854775808 ≤ f0 ∧ f0 ≤ 9223372036854775807) (hp4 : -9223372036854775808 ≤ f1 ∧ f1 ≤ 9223372036854775807) (hp5 : -9223372036854775808 ≤ f2 ∧ f2 ≤ 9223372036854775807) (hp6 : -9223372036854775808 ≤ t0 ∧ t0 ≤ 9223372036854775807) (hp7 : -9223372036854775808 ≤ t1 ∧ t1 ≤ 9223372036854775807) (hp8 : -9223372036854775808 ≤ t2 ∧ t2 ≤ 9223372036854775807) (hp9 : -9223372036854775808 ≤ sz ∧ sz ≤ 9223372036854775807) (hp10 : -9223372036854775808 ≤ lm ∧ lm ≤ 9223372036854775807) (hp11 : Ths ts) (hp12 : (ts.length : Int) * 144 ≤ 140737488355000) (hp13 : -9223372036854775808 ≤ ph ∧ ph ≤ 9223372036854775807) (hp14 : -9223372036854775808 ≤ scn ∧ scn ≤ 9223372036854775807) (hp15 : -9223372036854775808 ≤ fl ∧ fl ≤ 9223372036854775807) (hp16 : I64s os) (hp17 : (os.length : Int) * 8 ≤ 140737488355000) (hp18 : -9223372036854775808 ≤ brk ∧ brk ≤ 9223372036854775807) : Pub Try.prog 11 [.agg (hp W xs ys f0 f1 f2 t0 t1 t2 sz lm ts ph scn fl os brk)] (fun rv => ((RGT W xs ys f0 f1 f2 t0 t1 t2 sz lm ts ph scn) ∧ rv = .t) ∨ ((¬ (RGT W xs ys f0 f1 f2 t0 t1 t2 sz lm ts ph scn)) ∧ rv = .f)) := by
 refine pub_of TT_ok Try.func11 rfl (by decide) (Nat.le_of_ble_eq_true (by kernel_rfl)) (by kernel_rfl) ?_
 refine rgi [] 2 [2, 1] [0] [] trivial ?_
 refine xw_seq ?_
 refine reg ?_
 refine rki [] 2 0 [10, 2, 1] [0] [True] ⟨trivial, trivial⟩ ?_
 by_cases h0 : 16 ≤ W ∧ W ≤ 4096 ∧ (xs.length : Int) = W ∧ (ys.length : Int) = W
 ·
  refine pc (rmright_1 W xs ys ‹_› ‹_›) ?_
  refine rki [] 1 3 [3, 2, 1] [0] [] trivial ?_
  refine en ?_
  refine an ?_
  refine xw_seq ?_
  refine reg ?_
  refine rk [] 2 0 ⟨[(13, .agg [.i f0, .i f1, .i f2]), (3, .t), (2, .f), (1, .p 0)], [(0, .cells (hp W xs ys f0 f1 f2 t0 t1 t2 sz lm ts ph scn fl os brk) 32)], 1⟩ [True] ⟨trivial, trivial⟩ ?_
  by_cases h1 : (f0 = 0 ∨ f0 = 1) ∧ 0 ≤ f1 ∧ f1 ≤ f2 ∧ f2 ≤ 4096
  ·
   refine pc (rright_1 f0 f1 f2 ‹_›) ?_
   refine rki [] 1 3 [4, 3, 2, 1] [0] [] trivial ?_
   refine en ?_
   refine an ?_
   refine xw_seq ?_
   refine reg ?_
   refine rki [] 2 0 [16, 4, 3, 2, 1] [0] [True] ⟨trivial, trivial⟩ ?_
   by_cases h2 : (t0 = 0 ∨ t0 = 1) ∧ 0 ≤ t1 ∧ t1 ≤ t2 ∧ t2 ≤ 4096
   ·
    refine pc (rright_1 t0 t1 t2 ‹_›) ?_
    refine rki [] 1 3 [5, 4, 3, 2, 1] [0] [] trivial ?_
    refine en ?_
    refine an ?_
    refine xw_seq ?_
    refine xw_seq ?_
    refine reg ?_
    refine rk [(17, .bool (f0 == t0))] 20 0 ⟨[(37, .bool (f0 == t0)), (2, .f), (1, .p 0)], [(0, .cells (hp W xs ys f0 f1 f2 t0 t1 t2 sz lm ts ph scn fl os brk) 32)], 1⟩ [True, True, True, True, sm (f0 == t0), True] ⟨trivial, trivial, trivial, trivial, rfl, trivial, trivial⟩ ?_
    refine splitr 37 (x := (f0 == t0)) (by kernel_rfl) (fun h3 => ?_) (fun h3 => ?_)
    ·
     replace h3 : f0 = t0 := eq_of_beq h3
     refine rki [] 17 20 [54, 2, 1] [0] [True, True] ⟨trivial, trivial, trivial⟩ ?_
     refine en ?_
     refine an ?_
     refine ct ?_
     refine rgi [] 1 [2, 1] [0] [] trivial ?_
     refine xw_ret ?_
     refine an_ret ?_
     exact bs (.f) (Or.inr <| ⟨(by first | rfl | omega | exact decide_eq_true (by omega) | exact decide_eq_false (by omega) | (refine ⟨by omega, by omega, by omega, by omega, by omega, by omega, bfs_all ‹_› (by omega)⟩) | (intro hr; obtain ⟨g1, g2, g3, g4, g5, g6, g7⟩ := hr; first | omega | (have g8 := g7.at (by omega) i1; omega))), rfl⟩)
    ·
     replace h3 : f0 ≠ t0 := ne_of_beq_false h3
     refine rki [(26, .bool (f2 != W))] 9 20 [46, 2, 1] [0] [True, True, sm (f2 != W), True] ⟨trivial, trivial, rfl, trivial, trivial⟩ ?_
     refine splitr 46 (x := (f2 != W)) (by kernel_rfl) (fun h4 => ?_) (fun h4 => ?_)
     ·
      replace h4 : f2 ≠ W := bne_iff_ne.1 h4
      refine rki [] 8 29 [54, 2, 1] [0] [True] ⟨trivial, trivial⟩ ?_
      refine en ?_
      refine an ?_
      refine ct ?_
      refine rgi [] 1 [2, 1] [0] [] trivial ?_
      refine xw_ret ?_
      refine an_ret ?_
      exact bs (.f) (Or.inr <| ⟨(by first | rfl | omega | exact decide_eq_true (by omega) | exact decide_eq_false (by omega) | (refine ⟨by omega, by omega, by omega, by omega, by omega, by omega, bfs_all ‹_› (by omega)⟩) | (intro hr; obtain ⟨g1, g2, g3, g4, g5, g6, g7⟩ := hr; first | omega | (have g8 := g7.at (by omega) i1; omega))), rfl⟩)
     ·
      replace h4 : f2 = W := bne_eq_false_iff_eq.1 h4
      refine rki [(35, .bool (t2 != W))] 8 29 [54, 2, 1] [0] [True, True, sm (t2 != W), True] ⟨trivial, trivial, rfl, trivial, trivial⟩ ?_
      refine en ?_
      refine an ?_
      refine xw_cond (b := (t2 != W)) (by kernel_rfl) (fun h5 => ?_) (fun h5 => ?_)
      ·
       replace h5 : t2 ≠ W := bne_iff_ne.1 h5
       refine rgi [] 1 [2, 1] [0] [] trivial ?_
       refine xw_ret ?_
       refine an_ret ?_
       exact bs (.f) (Or.inr <| ⟨(by first | rfl | omega | exact decide_eq_true (by omega) | exact decide_eq_false (by omega) | (refine ⟨by omega, by omega, by omega, by omega, by omega, by omega, bfs_all ‹_› (by omega)⟩) | (intro hr; obtain ⟨g1, g2, g3, g4, g5, g6, g7⟩ := hr; first | omega | (have g8 := g7.at (by omega) i1; omega))), rfl⟩)
      ·
       replace h5 : t2 = W := bne_eq_false_iff_eq.1 h5
       refine xw_skip ?_
       refine an ?_
       refine xw_seq ?_
       refine xw_seq ?_
       refine reg ?_
       refine rki [(2, .bool (decide (sz < 0)))] 4 0 [58, 2, 1] [0] [True, sm (decide (sz < 0))] ⟨trivial, rfl, trivial⟩ ?_
       refine splitr 58 (x := (decide (sz < 0))) (by kernel_rfl) (fun h6 => ?_) (fun h6 => ?_)
       ·
        replace h6 : sz < 0 := of_decide_eq_true h6
        refine rk [] 26 4 ⟨[(84, .t), (2, .f), (1, .p 0)], [(0, .cells (hp W xs ys f0 f1 f2 t0 t1 t2 sz lm ts ph scn fl os brk) 32)], 1⟩ [True, True, True, True, True] ⟨trivial, trivial, trivial, trivial, trivial, trivial⟩ ?_
        refine en ?_
        refine an ?_
        refine ct ?_
        refine rgi [] 1 [2, 1] [0] [] trivial ?_
        refine xw_ret ?_
        refine an_ret ?_
        exact bs (.f) (Or.inr <| ⟨(by first | rfl | omega | exact decide_eq_true (by omega) | exact decide_eq_false (by omega) | (refine ⟨by omega, by omega, by omega, by omega, by omega, by omega, bfs_all ‹_› (by omega)⟩) | (intro hr; obtain ⟨g1, g2, g3, g4, g5, g6, g7⟩ := hr; first | omega | (have g8 := g7.at (by omega) i1; omega))), rfl⟩)
       ·
        replace h6 : ¬ (sz < 0) := of_decide_eq_false h6
        refine rk [(6, .bool (decide (4096 < sz)))] 5 4 ⟨[(63, .bool (decide (4096 < sz))), (2, .f), (1, .p 0)], [(0, .cells (hp W xs ys f0 f1 f2 t0 t1 t2 sz lm ts ph scn fl os brk) 32)], 1⟩ [True, sm (decide (4096 < sz)), True] ⟨trivial, rfl, trivial, trivial⟩ ?_
        refine splitr 63 (x := (decide (4096 < sz))) (by kernel_rfl) (fun h7 => ?_) (fun h7 => ?_)
        ·
         replace h7 : 4096 < sz := of_decide_eq_true h7
         refine rki [] 21 9 [84, 2, 1] [0] [True, True, True, True] ⟨trivial, trivial, trivial, trivial, trivial⟩ ?_
         refine en ?_
         refine an ?_
         refine ct ?_
         refine rgi [] 1 [2, 1] [0] [] trivial ?_
         refine xw_ret ?_
         refine an_ret ?_
         exact bs (.f) (Or.inr <| ⟨(by first | rfl | omega | exact decide_eq_true (by omega) | exact decide_eq_false (by omega) | (refine ⟨by omega, by omega, by omega, by omega, by omega, by omega, bfs_all ‹_› (by omega)⟩) | (intro hr; obtain ⟨g1, g2, g3, g4, g5, g6, g7⟩ := hr; first | omega | (have g8 := g7.at (by omega) i1; omega))), rfl⟩)
        ·
         replace h7 : ¬ (4096 < sz) := of_decide_eq_false h7
         refine rki [(11, .bool (decide (lm < 1)))] 5 9 [68, 2, 1] [0] [True, sm (decide (lm < 1)), True] ⟨trivial, rfl, trivial, trivial⟩ ?_
         refine splitr 68 (x := (decide (lm < 1))) (by kernel_rfl) (fun h8 => ?_) (fun h8 => ?_)
         ·
          replace h8 : lm < 1 := of_decide_eq_true h8
          refine rki [] 16 14 [84, 2, 1] [0] [True, True, True] ⟨trivial, trivial, trivial, trivial⟩ ?_
          refine en ?_
          refine an ?_
          refine ct ?_
          refine rgi [] 1 [2, 1] [0] [] trivial ?_
          refine xw_ret ?_
          refine an_ret ?_
          exact bs (.f) (Or.inr <| ⟨(by first | rfl | omega | exact decide_eq_true (by omega) | exact decide_eq_false (by omega) | (refine ⟨by omega, by omega, by omega, by omega, by omega, by omega, bfs_all ‹_› (by omega)⟩) | (intro hr; obtain ⟨g1, g2, g3, g4, g5, g6, g7⟩ := hr; first | omega | (have g8 := g7.at (by omega) i1; omega))), rfl⟩)
         ·
          replace h8 : ¬ (lm < 1) := of_decide_eq_false h8
          refine rki [(16, .bool (decide (64 < lm)))] 5 14 [73, 2, 1] [0] [True, sm (decide (64 < lm)), True] ⟨trivial, rfl, trivial, trivial⟩ ?_
          refine splitr 73 (x := (decide (64 < lm))) (by kernel_rfl) (fun h9 => ?_) (fun h9 => ?_)
          ·
           replace h9 : 64 < lm := of_decide_eq_true h9
           refine rki [] 11 19 [84, 2, 1] [0] [True, True] ⟨trivial, trivial, trivial⟩ ?_
           refine en ?_
           refine an ?_
           refine ct ?_
           refine rg [] 1 ⟨[(2, .f), (1, .p 0)], [(0, .cells (hp W xs ys f0 f1 f2 t0 t1 t2 sz lm ts ph scn fl os brk) 32)], 1⟩ [] trivial ?_
           refine xw_ret ?_
           refine an_ret ?_
           exact bs (.f) (Or.inr <| ⟨(by first | rfl | omega | exact decide_eq_true (by omega) | exact decide_eq_false (by omega) | (refine ⟨by omega, by omega, by omega, by omega, by omega, by omega, bfs_all ‹_› (by omega)⟩) | (intro hr; obtain ⟨g1, g2, g3, g4, g5, g6, g7⟩ := hr; first | omega | (have g8 := g7.at (by omega) i1; omega))), rfl⟩)
          ·
           replace h9 : ¬ (64 < lm) := of_decide_eq_false h9
           refine rki [(21, .i ((ts).length : Int)), (22, .bool (decide (((ts).length : Int) < 1)))] 6 19 [79, 2, 1] [0] [True, ((((List.map thS ts)).length : Nat) : Int) = ((ts).length : Int), sm (decide (((ts).length : Int) < 1)), True] ⟨trivial, (by simp), rfl, trivial, trivial⟩ ?_
           refine splitr 79 (x := (decide (((ts).length : Int) < 1))) (by kernel_rfl) (fun h10 => ?_) (fun h10 => ?_)
           ·
            replace h10 : (ts.length : Int) < 1 := of_decide_eq_true h10
            refine rk [] 5 25 ⟨[(84, .t), (2, .f), (1, .p 0)], [(0, .cells (hp W xs ys f0 f1 f2 t0 t1 t2 sz lm ts ph scn fl os brk) 32)], 1⟩ [True] ⟨trivial, trivial⟩ ?_
            refine en ?_
            refine an ?_
            refine ct ?_
            refine rgi [] 1 [2, 1] [0] [] trivial ?_
            refine xw_ret ?_
            refine an_ret ?_
            exact bs (.f) (Or.inr <| ⟨(by first | rfl | omega | exact decide_eq_true (by omega) | exact decide_eq_false (by omega) | (refine ⟨by omega, by omega, by omega, by omega, by omega, by omega, bfs_all ‹_› (by omega)⟩) | (intro hr; obtain ⟨g1, g2, g3, g4, g5, g6, g7⟩ := hr; first | omega | (have g8 := g7.at (by omega) i1; omega))), rfl⟩)
           ·
            replace h10 : ¬ ((ts.length : Int) < 1) := of_decide_eq_false h10
            refine rk [(27, .i ((ts).length : Int)), (28, .bool (decide (4 < ((ts).length : Int))))] 5 25 ⟨[(84, .bool (decide (4 < ((ts).length : Int)))), (2, .f), (1, .p 0)], [(0, .cells (hp W xs ys f0 f1 f2 t0 t1 t2 sz lm ts ph scn fl os brk) 32)], 1⟩ [True, ((((List.map thS ts)).length : Nat) : Int) = ((ts).length : Int), sm (decide (4 < ((ts).length : Int))), True] ⟨trivial, (by simp), rfl, trivial, trivial⟩ ?_
            refine en ?_
            refine an ?_
            refine xw_cond (b := (decide (4 < ((ts).length : Int)))) (by kernel_rfl) (fun h11 => ?_) (fun h11 => ?_)
            ·
             replace h11 : 4 < (ts.length : Int) := of_decide_eq_true h11
             refine rgi [] 1 [2, 1] [0] [] trivial ?_
             refine xw_ret ?_
             refine an_ret ?_
             exact bs (.f) (Or.inr <| ⟨(by first | rfl | omega | exact decide_eq_true (by omega) | exact decide_eq_false (by omega) | (refine ⟨by omega, by omega, by omega, by omega, by omega, by omega, bfs_all ‹_› (by omega)⟩) | (intro hr; obtain ⟨g1, g2, g3, g4, g5, g6, g7⟩ := hr; first | omega | (have g8 := g7.at (by omega) i1; omega))), rfl⟩)
            ·
             replace h11 : ¬ (4 < (ts.length : Int)) := of_decide_eq_false h11
             refine xw_skip ?_
             refine an ?_
             refine xw_seq ?_
             refine rgi [] 1 [6, 2, 1] [0] [] trivial ?_
             refine xw_block ?_
             refine xw_loop (α := {q : Int // (0 ≤ q) ∧ (q ≤ (ts.length : Int)) ∧ (Bfs (ts.take (Int.toNat q)) f1)}) (fun p => ⟨[(6, .i p.1), (2, .f), (1, .p 0)], [(0, .cells (hp W xs ys f0 f1 f2 t0 t1 t2 sz lm ts ph scn fl os brk) 32)], 1⟩) (fun p => ((ts.length : Int) - p.1).toNat) ⟨0, ⟨(by omega), (by omega), (by first | exact bfs_0 | exact bfs_next ‹_› (by omega) (by omega) (by omega) (by omega))⟩⟩ (le_of [] [(0 : Int) = 0, false = false, (W : Int) = W, (false = true → false = true), ((m64 xs) : List SV) = (m64 xs), (false = true → false = true), ((m64 ys) : List SV) = (m64 ys), (f0 : Int) = f0, (f1 : Int) = f1, (f2 : Int) = f2, (t0 : Int) = t0, (t1 : Int) = t1, (t2 : Int) = t2, (sz : Int) = sz, (lm : Int) = lm, (false = true → false = true), ((List.map thS ts) : List SV) = (List.map thS ts), (ph : Int) = ph, (scn : Int) = scn, (fl : Int) = fl, (false = true → false = true), ((List.map (SV.int .i64) os) : List SV) = (List.map (SV.int .i64) os), (brk : Int) = brk] (by kernel_rfl) ⟨rfl, rfl, rfl, id, rfl, id, rfl, rfl, rfl, rfl, rfl, rfl, rfl, rfl, rfl, id, rfl, rfl, rfl, rfl, id, rfl, rfl, trivial⟩) ?_
             rintro ⟨i1, h12, h13, h14⟩
             show XW _ _ _ _ _ _ ⟨[(6, .int .i64 i1), (2, .bool false), (1, .loc 0 0)], [(0, .cells (mr W xs ys [.int .i64 f0, .int .i64 f1, .int .i64 f2, .int .i64 t0, .int .i64 t1, .int .i64 t2, .int .i64 sz, .int .i64 lm, (sT ts), .int .i64 ph, .int .i64 scn, .int .i64 fl, (sN os), .int .i64 brk]) 32)], 1⟩
             refine xw_seq ?_
             refine rgi [(3, .i ((ts).length : Int)), (4, .bool (decide (i1 < ((ts).length : Int))))] 5 [89, 6, 2, 1] [0] [True, ((((List.map thS ts)).length : Nat) : Int) = ((ts).length : Int), sm (decide (i1 < ((ts).length : Int)))] ⟨trivial, (by simp), rfl, trivial⟩ ?_
             refine xw_cond (b := (decide (i1 < ((ts).length : Int)))) (by kernel_rfl) (fun h15 => ?_) (fun h15 => ?_)
             ·
              replace h15 : i1 < (ts.length : Int) := of_decide_eq_true h15
              refine xw_skip ?_
              refine an ?_
              refine xw_seq ?_
              refine xw_block ?_
              refine xw_seq ?_
              refine reg ?_
              refine rki [(3, .agg (tc (thA ts i1)))] 4 0 [95, 6, 2, 1] [0] [True, (0 : Int) ≤ i1 ∧ i1 < ((((List.map thS ts)).length : Nat) : Int) ∧ ((List.map thS ts))[(i1 : Int).toNat]? = some (.agg (tc (thA ts i1)))] ⟨trivial, (ix_th (by omega) (by first | omega | (simp only [len_st]; omega) | (simp; done) | (simp; omega) | (simp [len_st, len_stx, len_sty, len_zx, len_zy]; omega))), trivial⟩ ?_
              have h16 : U64s (Th.st (thA ts i1)) := (Ths.at (by first | assumption | exact U64s.st (by assumption) _ (by omega)) _).1
              have h17 : ((Th.st (thA ts i1)).length : Int) * 8 ≤ 140737488355000 := (Ths.at (by first | assumption | exact U64s.st (by assumption) _ (by omega)) _).2.1
              have h18 : (-9223372036854775808 ≤ (Th.b0 (thA ts i1)) ∧ (Th.b0 (thA ts i1)) ≤ 9223372036854775807) := (Ths.at (by first | assumption | exact U64s.st (by assumption) _ (by omega)) _).2.2.1
              have h19 : (-9223372036854775808 ≤ (Th.b1 (thA ts i1)) ∧ (Th.b1 (thA ts i1)) ≤ 9223372036854775807) := (Ths.at (by first | assumption | exact U64s.st (by assumption) _ (by omega)) _).2.2.2.1
              have h20 : Ents (Th.lg (thA ts i1)) := (Ths.at (by first | assumption | exact U64s.st (by assumption) _ (by omega)) _).2.2.2.2.1
              have h21 : ((Th.lg (thA ts i1)).length : Int) * 16 ≤ 140737488355000 := (Ths.at (by first | assumption | exact U64s.st (by assumption) _ (by omega)) _).2.2.2.2.2.1
              have h22 : Ops (Th.lf (thA ts i1)) := (Ths.at (by first | assumption | exact U64s.st (by assumption) _ (by omega)) _).2.2.2.2.2.2.1
              have h23 : ((Th.lf (thA ts i1)).length : Int) * 64 ≤ 140737488355000 := (Ths.at (by first | assumption | exact U64s.st (by assumption) _ (by omega)) _).2.2.2.2.2.2.2.1
              have h24 : Ents (Th.pd (thA ts i1)) := (Ths.at (by first | assumption | exact U64s.st (by assumption) _ (by omega)) _).2.2.2.2.2.2.2.2.1
              have h25 : ((Th.pd (thA ts i1)).length : Int) * 16 ≤ 140737488355000 := (Ths.at (by first | assumption | exact U64s.st (by assumption) _ (by omega)) _).2.2.2.2.2.2.2.2.2.1
              have h26 : Anss (Th.dn (thA ts i1)) := (Ths.at (by first | assumption | exact U64s.st (by assumption) _ (by omega)) _).2.2.2.2.2.2.2.2.2.2.1
              have h27 : ((Th.dn (thA ts i1)).length : Int) * 24 ≤ 140737488355000 := (Ths.at (by first | assumption | exact U64s.st (by assumption) _ (by omega)) _).2.2.2.2.2.2.2.2.2.2.2
              refine rki [] 3 4 [7, 6, 2, 1] [1, 0] [True, True] ⟨trivial, trivial, trivial⟩ ?_
              refine en ?_
              refine an ?_
              refine xw_seq ?_
              refine reg ?_
              refine rk [(3, .bool ((Th.b0 (thA ts i1)) == 0))] 5 0 ⟨[(101, .bool ((Th.b0 (thA ts i1)) == 0)), (7, .p 1), (6, .i i1), (2, .f), (1, .p 0)], [(1, .cells (tc (thA ts i1)) 44), (0, .cells (hp W xs ys f0 f1 f2 t0 t1 t2 sz lm ts ph scn fl os brk) 32)], 2⟩ [True, sm ((Th.b0 (thA ts i1)) == 0)] ⟨trivial, rfl, trivial⟩ ?_
              refine splitr 101 (x := ((Th.b0 (thA ts i1)) == 0)) (by kernel_rfl) (fun h28 => ?_) (fun h28 => ?_)
              ·
               replace h28 : (Th.b0 (thA ts i1)) = 0 := eq_of_beq h28
               refine rki [(8, .bool ((Th.b1 (thA ts i1)) == 0))] 6 5 [8, 7, 6, 2, 1] [1, 0] [True, sm ((Th.b1 (thA ts i1)) == 0), True] ⟨trivial, rfl, trivial, trivial⟩ ?_
               refine en ?_
               refine an ?_
               refine xw_seq ?_
               refine reg ?_
               refine rki [] 3 0 [109, 7, 6, 2, 1] [1, 0] [] trivial ?_
               refine splitr 109 (x := (!((Th.b1 (thA ts i1)) == 0))) (by kernel_rfl) (fun h29 => ?_) (fun h29 => ?_)
               ·
                replace h29 : (Th.b1 (thA ts i1)) ≠ 0 := by first | (simp; done) | simpa using h29 | (simp at h29; omega)
                refine rki [(6, .f), (14, .bool (decide ((Th.b1 (thA ts i1)) < (Th.b0 (thA ts i1)))))] 14 3 [123, 109, 7, 6, 2, 1] [1, 0] [True, (decide ((Th.b0 (thA ts i1)) < 0)) = false, True, True, sm (decide ((Th.b1 (thA ts i1)) < (Th.b0 (thA ts i1)))), True] ⟨trivial, decide_eq_false (by omega), trivial, trivial, rfl, trivial, trivial⟩ ?_
                refine splitr 123 (x := (decide ((Th.b1 (thA ts i1)) < (Th.b0 (thA ts i1))))) (by kernel_rfl) (fun h30 => ?_) (fun h30 => ?_)
                ·
                 replace h30 : (Th.b1 (thA ts i1)) < (Th.b0 (thA ts i1)) := of_decide_eq_true h30
                 refine rk [] 15 17 ⟨[(138, .t), (6, .i i1), (2, .f), (1, .p 0)], [(0, .cells (hp W xs ys f0 f1 f2 t0 t1 t2 sz lm ts ph scn fl os brk) 32)], 2⟩ [True, True, True] ⟨trivial, trivial, trivial, trivial⟩ ?_
                 refine en ?_
                 refine an ?_
                 refine ct ?_
                 refine rgi [] 1 [2, 6, 1] [0] [] trivial ?_
                 refine xw_ret ?_
                 refine ib_ret ?_
                 refine an_ret ?_
                 refine ag_ret ?_
                 refine ib_ret ?_
                 refine an_ret ?_
                 exact bs (.f) (Or.inr <| ⟨(by first | rfl | omega | exact decide_eq_true (by omega) | exact decide_eq_false (by omega) | (refine ⟨by omega, by omega, by omega, by omega, by omega, by omega, bfs_all ‹_› (by omega)⟩) | (intro hr; obtain ⟨g1, g2, g3, g4, g5, g6, g7⟩ := hr; first | omega | (have g8 := g7.at (by omega) i1; omega))), rfl⟩)
                ·
                 replace h30 : ¬ ((Th.b1 (thA ts i1)) < (Th.b0 (thA ts i1))) := of_decide_eq_false h30
                 refine rk [(23, .bool (decide (f1 < (Th.b1 (thA ts i1)))))] 10 17 ⟨[(133, .bool (decide (f1 < (Th.b1 (thA ts i1))))), (7, .p 1), (6, .i i1), (2, .f), (1, .p 0)], [(1, .cells (tc (thA ts i1)) 44), (0, .cells (hp W xs ys f0 f1 f2 t0 t1 t2 sz lm ts ph scn fl os brk) 32)], 2⟩ [True, True, sm (decide (f1 < (Th.b1 (thA ts i1)))), True, True] ⟨trivial, trivial, rfl, trivial, trivial, trivial⟩ ?_
                 refine splitr 133 (x := (decide (f1 < (Th.b1 (thA ts i1))))) (by kernel_rfl) (fun h31 => ?_) (fun h31 => ?_)
                 ·
                  replace h31 : f1 < (Th.b1 (thA ts i1)) := of_decide_eq_true h31
                  refine rki [] 5 27 [138, 6, 2, 1] [0] [True] ⟨trivial, trivial⟩ ?_
                  refine en ?_
                  refine an ?_
                  refine ct ?_
                  refine rgi [] 1 [2, 6, 1] [0] [] trivial ?_
                  refine xw_ret ?_
                  refine ib_ret ?_
                  refine an_ret ?_
                  refine ag_ret ?_
                  refine ib_ret ?_
                  refine an_ret ?_
                  exact bs (.f) (Or.inr <| ⟨(by first | rfl | omega | exact decide_eq_true (by omega) | exact decide_eq_false (by omega) | (refine ⟨by omega, by omega, by omega, by omega, by omega, by omega, bfs_all ‹_› (by omega)⟩) | (intro hr; obtain ⟨g1, g2, g3, g4, g5, g6, g7⟩ := hr; first | omega | (have g8 := g7.at (by omega) i1; omega))), rfl⟩)
                 ·
                  replace h31 : ¬ (f1 < (Th.b1 (thA ts i1))) := of_decide_eq_false h31
                  refine rki [(29, .i (((Th.pd (thA ts i1))).length : Int)), (30, .bool (decide (1 < (((Th.pd (thA ts i1))).length : Int))))] 5 27 [138, 6, 2, 1] [0] [True, ((((List.map entS (Th.pd (thA ts i1)))).length : Nat) : Int) = (((Th.pd (thA ts i1))).length : Int), sm (decide (1 < (((Th.pd (thA ts i1))).length : Int))), True] ⟨trivial, (by simp), rfl, trivial, trivial⟩ ?_
                  refine en ?_
                  refine an ?_
                  refine xw_cond (b := (decide (1 < (((Th.pd (thA ts i1))).length : Int)))) (by kernel_rfl) (fun h32 => ?_) (fun h32 => ?_)
                  ·
                   replace h32 : 1 < ((Th.pd (thA ts i1)).length : Int) := of_decide_eq_true h32
                   refine rgi [] 1 [2, 6, 1] [0] [] trivial ?_
                   refine xw_ret ?_
                   refine ib_ret ?_
                   refine an_ret ?_
                   refine ag_ret ?_
                   refine ib_ret ?_
                   refine an_ret ?_
                   exact bs (.f) (Or.inr <| ⟨(by first | rfl | omega | exact decide_eq_true (by omega) | exact decide_eq_false (by omega) | (refine ⟨by omega, by omega, by omega, by omega, by omega, by omega, bfs_all ‹_› (by omega)⟩) | (intro hr; obtain ⟨g1, g2, g3, g4, g5, g6, g7⟩ := hr; first | omega | (have g8 := g7.at (by omega) i1; omega))), rfl⟩)
                  ·
                   replace h32 : ¬ (1 < ((Th.pd (thA ts i1)).length : Int)) := of_decide_eq_false h32
                   refine xw_skip ?_
                   refine ib ?_
                   refine an ?_
                   refine rei [(1, .i (i1 + 1))] 3 [6, 2, 1] [0] [IntKind.i64.wrap (i1 + 1) = (i1 + 1)] ⟨i64_eq (by omega) (by omega), trivial⟩ ?_
                   exact ag ⟨(i1 + 1), ⟨(by omega), (by omega), (by first | exact bfs_0 | exact bfs_next ‹_› (by omega) (by omega) (by omega) (by omega))⟩⟩ (le_of [] [((i1 + 1) : Int) = (i1 + 1), false = false, (W : Int) = W, (false = true → false = true), ((m64 xs) : List SV) = (m64 xs), (false = true → false = true), ((m64 ys) : List SV) = (m64 ys), (f0 : Int) = f0, (f1 : Int) = f1, (f2 : Int) = f2, (t0 : Int) = t0, (t1 : Int) = t1, (t2 : Int) = t2, (sz : Int) = sz, (lm : Int) = lm, (false = true → false = true), ((List.map thS ts) : List SV) = (List.map thS ts), (ph : Int) = ph, (scn : Int) = scn, (fl : Int) = fl, (false = true → false = true), ((List.map (SV.int .i64) os) : List SV) = (List.map (SV.int .i64) os), (brk : Int) = brk] (by kernel_rfl) ⟨rfl, rfl, rfl, id, rfl, id, rfl, rfl, rfl, rfl, rfl, rfl, rfl, rfl, rfl, id, rfl, rfl, rfl, rfl, id, rfl, rfl, trivial⟩) (by show ((ts.length : Int) - (i1 + 1)).toNat < ((ts.length : Int) - i1).toNat; omega)
               ·
                replace h29 : (Th.b1 (thA ts i1)) = 0 := by first | (simp; done) | simpa using h29
                refine rki [(29, .i (((Th.pd (thA ts i1))).length : Int)), (30, .bool (decide (1 < (((Th.pd (thA ts i1))).length : Int))))] 29 3 [138, 6, 2, 1] [0] [True, True, ((((List.map entS (Th.pd (thA ts i1)))).length : Nat) : Int) = (((Th.pd (thA ts i1))).length : Int), sm (decide (1 < (((Th.pd (thA ts i1))).length : Int))), True] ⟨trivial, trivial, (by simp), rfl, trivial, trivial⟩ ?_
                refine en ?_
                refine an ?_
                refine xw_cond (b := (decide (1 < (((Th.pd (thA ts i1))).length : Int)))) (by kernel_rfl) (fun h30 => ?_) (fun h30 => ?_)
                ·
                 replace h30 : 1 < ((Th.pd (thA ts i1)).length : Int) := of_decide_eq_true h30
                 refine rg [] 1 ⟨[(2, .f), (6, .i i1), (1, .p 0)], [(0, .cells (hp W xs ys f0 f1 f2 t0 t1 t2 sz lm ts ph scn fl os brk) 32)], 2⟩ [] trivial ?_
                 refine xw_ret ?_
                 refine ib_ret ?_
                 refine an_ret ?_
                 refine ag_ret ?_
                 refine ib_ret ?_
                 refine an_ret ?_
                 exact bs (.f) (Or.inr <| ⟨(by first | rfl | omega | exact decide_eq_true (by omega) | exact decide_eq_false (by omega) | (refine ⟨by omega, by omega, by omega, by omega, by omega, by omega, bfs_all ‹_› (by omega)⟩) | (intro hr; obtain ⟨g1, g2, g3, g4, g5, g6, g7⟩ := hr; first | omega | (have g8 := g7.at (by omega) i1; omega))), rfl⟩)
                ·
                 replace h30 : ¬ (1 < ((Th.pd (thA ts i1)).length : Int)) := of_decide_eq_false h30
                 refine xw_skip ?_
                 refine ib ?_
                 refine an ?_
                 refine re [(1, .i (i1 + 1))] 3 ⟨[(6, .i (i1 + 1)), (2, .f), (1, .p 0)], [(0, .cells (hp W xs ys f0 f1 f2 t0 t1 t2 sz lm ts ph scn fl os brk) 32)], 2⟩ [IntKind.i64.wrap (i1 + 1) = (i1 + 1)] ⟨i64_eq (by omega) (by omega), trivial⟩ ?_
                 exact ag ⟨(i1 + 1), ⟨(by omega), (by omega), (by first | exact bfs_0 | exact bfs_next ‹_› (by omega) (by omega) (by omega) (by omega))⟩⟩ (le_of [] [((i1 + 1) : Int) = (i1 + 1), false = false, (W : Int) = W, (false = true → false = true), ((m64 xs) : List SV) = (m64 xs), (false = true → false = true), ((m64 ys) : List SV) = (m64 ys), (f0 : Int) = f0, (f1 : Int) = f1, (f2 : Int) = f2, (t0 : Int) = t0, (t1 : Int) = t1, (t2 : Int) = t2, (sz : Int) = sz, (lm : Int) = lm, (false = true → false = true), ((List.map thS ts) : List SV) = (List.map thS ts), (ph : Int) = ph, (scn : Int) = scn, (fl : Int) = fl, (false = true → false = true), ((List.map (SV.int .i64) os) : List SV) = (List.map (SV.int .i64) os), (brk : Int) = brk] (by kernel_rfl) ⟨rfl, rfl, rfl, id, rfl, id, rfl, rfl, rfl, rfl, rfl, rfl, rfl, rfl, rfl, id, rfl, rfl, rfl, rfl, id, rfl, rfl, trivial⟩) (by show ((ts.length : Int) - (i1 + 1)).toNat < ((ts.length : Int) - i1).toNat; omega)
              ·
               replace h28 : (Th.b0 (thA ts i1)) ≠ 0 := ne_of_beq_false h28
               refine rki [] 6 5 [8, 7, 6, 2, 1] [1, 0] [True] ⟨trivial, trivial⟩ ?_
               refine en ?_
               refine an ?_
               refine xw_seq ?_
               refine reg ?_
               refine rki [(6, .bool (decide ((Th.b0 (thA ts i1)) < 0)))] 8 0 [114, 109, 7, 6, 2, 1] [1, 0] [True, sm (decide ((Th.b0 (thA ts i1)) < 0))] ⟨trivial, rfl, trivial⟩ ?_
               refine splitr 114 (x := (decide ((Th.b0 (thA ts i1)) < 0))) (by kernel_rfl) (fun h29 => ?_) (fun h29 => ?_)
               ·
                replace h29 : (Th.b0 (thA ts i1)) < 0 := of_decide_eq_true h29
                refine rki [] 24 8 [138, 6, 2, 1] [0] [True, True, True, True] ⟨trivial, trivial, trivial, trivial, trivial⟩ ?_
                refine en ?_
                refine an ?_
                refine ct ?_
                refine rg [] 1 ⟨[(2, .f), (6, .i i1), (1, .p 0)], [(0, .cells (hp W xs ys f0 f1 f2 t0 t1 t2 sz lm ts ph scn fl os brk) 32)], 2⟩ [] trivial ?_
                refine xw_ret ?_
                refine ib_ret ?_
                refine an_ret ?_
                refine ag_ret ?_
                refine ib_ret ?_
                refine an_ret ?_
                exact bs (.f) (Or.inr <| ⟨(by first | rfl | omega | exact decide_eq_true (by omega) | exact decide_eq_false (by omega) | (refine ⟨by omega, by omega, by omega, by omega, by omega, by omega, bfs_all ‹_› (by omega)⟩) | (intro hr; obtain ⟨g1, g2, g3, g4, g5, g6, g7⟩ := hr; first | omega | (have g8 := g7.at (by omega) i1; omega))), rfl⟩)
               ·
                replace h29 : ¬ ((Th.b0 (thA ts i1)) < 0) := of_decide_eq_false h29
                refine rki [(14, .bool (decide ((Th.b1 (thA ts i1)) < (Th.b0 (thA ts i1)))))] 9 8 [123, 109, 7, 6, 2, 1] [1, 0] [True, True, sm (decide ((Th.b1 (thA ts i1)) < (Th.b0 (thA ts i1)))), True] ⟨trivial, trivial, rfl, trivial, trivial⟩ ?_
                refine splitr 123 (x := (decide ((Th.b1 (thA ts i1)) < (Th.b0 (thA ts i1))))) (by kernel_rfl) (fun h30 => ?_) (fun h30 => ?_)
                ·
                 replace h30 : (Th.b1 (thA ts i1)) < (Th.b0 (thA ts i1)) := of_decide_eq_true h30
                 refine rk [] 15 17 ⟨[(138, .t), (6, .i i1), (2, .f), (1, .p 0)], [(0, .cells (hp W xs ys f0 f1 f2 t0 t1 t2 sz lm ts ph scn fl os brk) 32)], 2⟩ [True, True, True] ⟨trivial, trivial, trivial, trivial⟩ ?_
                 refine en ?_
                 refine an ?_
                 refine ct ?_
                 refine rgi [] 1 [2, 6, 1] [0] [] trivial ?_
                 refine xw_ret ?_
                 refine ib_ret ?_
                 refine an_ret ?_
                 refine ag_ret ?_
                 refine ib_ret ?_
                 refine an_ret ?_
                 exact bs (.f) (Or.inr <| ⟨(by first | rfl | omega | exact decide_eq_true (by omega) | exact decide_eq_false (by omega) | (refine ⟨by omega, by omega, by omega, by omega, by omega, by omega, bfs_all ‹_› (by omega)⟩) | (intro hr; obtain ⟨g1, g2, g3, g4, g5, g6, g7⟩ := hr; first | omega | (have g8 := g7.at (by omega) i1; omega))), rfl⟩)
                ·
                 replace h30 : ¬ ((Th.b1 (thA ts i1)) < (Th.b0 (thA ts i1))) := of_decide_eq_false h30
                 refine rk [(23, .bool (decide (f1 < (Th.b1 (thA ts i1)))))] 10 17 ⟨[(133, .bool (decide (f1 < (Th.b1 (thA ts i1))))), (7, .p 1), (6, .i i1), (2, .f), (1, .p 0)], [(1, .cells (tc (thA ts i1)) 44), (0, .cells (hp W xs ys f0 f1 f2 t0 t1 t2 sz lm ts ph scn fl os brk) 32)], 2⟩ [True, True, sm (decide (f1 < (Th.b1 (thA ts i1)))), True, True] ⟨trivial, trivial, rfl, trivial, trivial, trivial⟩ ?_
                 refine splitr 133 (x := (decide (f1 < (Th.b1 (thA ts i1))))) (by kernel_rfl) (fun h31 => ?_) (fun h31 => ?_)
                 ·
                  replace h31 : f1 < (Th.b1 (thA ts i1)) := of_decide_eq_true h31
                  refine rki [] 5 27 [138, 6, 2, 1] [0] [True] ⟨trivial, trivial⟩ ?_
                  refine en ?_
                  refine an ?_
                  refine ct ?_
                  refine rgi [] 1 [2, 6, 1] [0] [] trivial ?_
                  refine xw_ret ?_
                  refine ib_ret ?_
                  refine an_ret ?_
                  refine ag_ret ?_
                  refine ib_ret ?_
                  refine an_ret ?_
                  exact bs (.f) (Or.inr <| ⟨(by first | rfl | omega | exact decide_eq_true (by omega) | exact decide_eq_false (by omega) | (refine ⟨by omega, by omega, by omega, by omega, by omega, by omega, bfs_all ‹_› (by omega)⟩) | (intro hr; obtain ⟨g1, g2, g3, g4, g5, g6, g7⟩ := hr; first | omega | (have g8 := g7.at (by omega) i1; omega))), rfl⟩)
                 ·
                  replace h31 : ¬ (f1 < (Th.b1 (thA ts i1))) := of_decide_eq_false h31
                  refine rki [(29, .i (((Th.pd (thA ts i1))).length : Int)), (30, .bool (decide (1 < (((Th.pd (thA ts i1))).length : Int))))] 5 27 [138, 6, 2, 1] [0] [True, ((((List.map entS (Th.pd (thA ts i1)))).length : Nat) : Int) = (((Th.pd (thA ts i1))).length : Int), sm (decide (1 < (((Th.pd (thA ts i1))).length : Int))), True] ⟨trivial, (by simp), rfl, trivial, trivial⟩ ?_
                  refine en ?_
                  refine an ?_
                  refine xw_cond (b := (decide (1 < (((Th.pd (thA ts i1))).length : Int)))) (by kernel_rfl) (fun h32 => ?_) (fun h32 => ?_)
                  ·
                   replace h32 : 1 < ((Th.pd (thA ts i1)).length : Int) := of_decide_eq_true h32
                   refine rgi [] 1 [2, 6, 1] [0] [] trivial ?_
                   refine xw_ret ?_
                   refine ib_ret ?_
                   refine an_ret ?_
                   refine ag_ret ?_
                   refine ib_ret ?_
                   refine an_ret ?_
                   exact bs (.f) (Or.inr <| ⟨(by first | rfl | omega | exact decide_eq_true (by omega) | exact decide_eq_false (by omega) | (refine ⟨by omega, by omega, by omega, by omega, by omega, by omega, bfs_all ‹_› (by omega)⟩) | (intro hr; obtain ⟨g1, g2, g3, g4, g5, g6, g7⟩ := hr; first | omega | (have g8 := g7.at (by omega) i1; omega))), rfl⟩)
                  ·
                   replace h32 : ¬ (1 < ((Th.pd (thA ts i1)).length : Int)) := of_decide_eq_false h32
                   refine xw_skip ?_
                   refine ib ?_
                   refine an ?_
                   refine rei [(1, .i (i1 + 1))] 3 [6, 2, 1] [0] [IntKind.i64.wrap (i1 + 1) = (i1 + 1)] ⟨i64_eq (by omega) (by omega), trivial⟩ ?_
                   exact ag ⟨(i1 + 1), ⟨(by omega), (by omega), (by first | exact bfs_0 | exact bfs_next ‹_› (by omega) (by omega) (by omega) (by omega))⟩⟩ (le_of [] [((i1 + 1) : Int) = (i1 + 1), false = false, (W : Int) = W, (false = true → false = true), ((m64 xs) : List SV) = (m64 xs), (false = true → false = true), ((m64 ys) : List SV) = (m64 ys), (f0 : Int) = f0, (f1 : Int) = f1, (f2 : Int) = f2, (t0 : Int) = t0, (t1 : Int) = t1, (t2 : Int) = t2, (sz : Int) = sz, (lm : Int) = lm, (false = true → false = true), ((List.map thS ts) : List SV) = (List.map thS ts), (ph : Int) = ph, (scn : Int) = scn, (fl : Int) = fl, (false = true → false = true), ((List.map (SV.int .i64) os) : List SV) = (List.map (SV.int .i64) os), (brk : Int) = brk] (by kernel_rfl) ⟨rfl, rfl, rfl, id, rfl, id, rfl, rfl, rfl, rfl, rfl, rfl, rfl, rfl, rfl, id, rfl, rfl, rfl, rfl, id, rfl, rfl, trivial⟩) (by show ((ts.length : Int) - (i1 + 1)).toNat < ((ts.length : Int) - i1).toNat; omega)
             ·
              replace h15 : ¬ (i1 < (ts.length : Int)) := of_decide_eq_false h15
              refine xw_exit ?_
              refine an_exit ?_
              refine ag_exit ?_
              refine ib_same ?_
              refine an ?_
              refine xw_seq ?_
              refine reg ?_
              refine rki [(2, .bool (decide (0 ≤ ph)))] 4 0 [142, 2, 1] [0] [True, sm (decide (0 ≤ ph))] ⟨trivial, rfl, trivial⟩ ?_
              refine splitr 142 (x := (decide (0 ≤ ph))) (by kernel_rfl) (fun h16 => ?_) (fun h16 => ?_)
              ·
               replace h16 : 0 ≤ ph := of_decide_eq_true h16
               refine rki [(6, .bool (decide (ph ≤ 2)))] 5 4 [147, 2, 1] [0] [True, sm (decide (ph ≤ 2)), True] ⟨trivial, rfl, trivial, trivial⟩ ?_
               refine splitr 147 (x := (decide (ph ≤ 2))) (by kernel_rfl) (fun h17 => ?_) (fun h17 => ?_)
               ·
                replace h17 : ph ≤ 2 := of_decide_eq_true h17
                refine rk [(11, .bool (decide (0 ≤ scn)))] 5 9 ⟨[(152, .bool (decide (0 ≤ scn))), (2, .f), (1, .p 0)], [(0, .cells (hp W xs ys f0 f1 f2 t0 t1 t2 sz lm ts ph scn fl os brk) 32)], 1⟩ [True, sm (decide (0 ≤ scn)), True] ⟨trivial, rfl, trivial, trivial⟩ ?_
                refine splitr 152 (x := (decide (0 ≤ scn))) (by kernel_rfl) (fun h18 => ?_) (fun h18 => ?_)
                ·
                 replace h18 : 0 ≤ scn := of_decide_eq_true h18
                 refine rki [(19, .bool (decide (scn ≤ t1)))] 8 14 [2] [] [True, True, sm (decide (scn ≤ t1)), True] ⟨trivial, trivial, rfl, trivial, trivial⟩ ?_
                 refine en ?_
                 refine an ?_
                 refine xw_ret ?_
                 by_cases h19 : scn ≤ t1
                 ·
                  exact br (.bool (decide (scn ≤ t1))) (.t) (wkd [(decide (scn ≤ t1)) = true] (by kernel_rfl) ⟨(by first | rfl | omega | exact decide_eq_true (by omega) | exact decide_eq_false (by omega) | (refine ⟨by omega, by omega, by omega, by omega, by omega, by omega, bfs_all ‹_› (by omega)⟩) | (intro hr; obtain ⟨g1, g2, g3, g4, g5, g6, g7⟩ := hr; first | omega | (have g8 := g7.at (by omega) i1; omega))), trivial⟩) (Or.inl <| ⟨(by first | rfl | omega | exact decide_eq_true (by omega) | exact decide_eq_false (by omega) | (refine ⟨by omega, by omega, by omega, by omega, by omega, by omega, bfs_all ‹_› (by omega)⟩) | (intro hr; obtain ⟨g1, g2, g3, g4, g5, g6, g7⟩ := hr; first | omega | (have g8 := g7.at (by omega) i1; omega))), rfl⟩)
                 ·
                  exact br (.bool (decide (scn ≤ t1))) (.f) (wkd [(decide (scn ≤ t1)) = false] (by kernel_rfl) ⟨(by first | rfl | omega | exact decide_eq_true (by omega) | exact decide_eq_false (by omega) | (refine ⟨by omega, by omega, by omega, by omega, by omega, by omega, bfs_all ‹_› (by omega)⟩) | (intro hr; obtain ⟨g1, g2, g3, g4, g5, g6, g7⟩ := hr; first | omega | (have g8 := g7.at (by omega) i1; omega))), trivial⟩) (Or.inr <| ⟨(by first | rfl | omega | exact decide_eq_true (by omega) | exact decide_eq_false (by omega) | (refine ⟨by omega, by omega, by omega, by omega, by omega, by omega, bfs_all ‹_› (by omega)⟩) | (intro hr; obtain ⟨g1, g2, g3, g4, g5, g6, g7⟩ := hr; first | omega | (have g8 := g7.at (by omega) i1; omega))), rfl⟩)
                ·
                 replace h18 : ¬ (0 ≤ scn) := of_decide_eq_false h18
                 refine rki [] 8 14 [2] [] [True] ⟨trivial, trivial⟩ ?_
                 refine en ?_
                 refine an ?_
                 refine xw_ret ?_
                 exact bs (.f) (Or.inr <| ⟨(by first | rfl | omega | exact decide_eq_true (by omega) | exact decide_eq_false (by omega) | (refine ⟨by omega, by omega, by omega, by omega, by omega, by omega, bfs_all ‹_› (by omega)⟩) | (intro hr; obtain ⟨g1, g2, g3, g4, g5, g6, g7⟩ := hr; first | omega | (have g8 := g7.at (by omega) i1; omega))), rfl⟩)
               ·
                replace h17 : ¬ (ph ≤ 2) := of_decide_eq_false h17
                refine rk [] 13 9 ⟨[(2, .f)], [], 1⟩ [True, True] ⟨trivial, trivial, trivial⟩ ?_
                refine en ?_
                refine an ?_
                refine xw_ret ?_
                exact bs (.f) (Or.inr <| ⟨(by first | rfl | omega | exact decide_eq_true (by omega) | exact decide_eq_false (by omega) | (refine ⟨by omega, by omega, by omega, by omega, by omega, by omega, bfs_all ‹_› (by omega)⟩) | (intro hr; obtain ⟨g1, g2, g3, g4, g5, g6, g7⟩ := hr; first | omega | (have g8 := g7.at (by omega) i1; omega))), rfl⟩)
              ·
               replace h16 : ¬ (0 ≤ ph) := of_decide_eq_false h16
               refine rki [] 18 4 [2] [] [True, True, True] ⟨trivial, trivial, trivial, trivial⟩ ?_
               refine en ?_
               refine an ?_
               refine xw_ret ?_
               exact bs (.f) (Or.inr <| ⟨(by first | rfl | omega | exact decide_eq_true (by omega) | exact decide_eq_false (by omega) | (refine ⟨by omega, by omega, by omega, by omega, by omega, by omega, bfs_all ‹_› (by omega)⟩) | (intro hr; obtain ⟨g1, g2, g3, g4, g5, g6, g7⟩ := hr; first | omega | (have g8 := g7.at (by omega) i1; omega))), rfl⟩)
   ·
    refine pc (rright_2 t0 t1 t2 ‹_›) ?_
    refine rki [] 1 3 [5, 4, 3, 2, 1] [0] [] trivial ?_
    refine en ?_
    refine an ?_
    refine xw_seq ?_
    refine rg [] 37 ⟨[(54, .t), (2, .f), (1, .p 0)], [(0, .cells (hp W xs ys f0 f1 f2 t0 t1 t2 sz lm ts ph scn fl os brk) 32)], 1⟩ [True, True, True, True, True] ⟨trivial, trivial, trivial, trivial, trivial, trivial⟩ ?_
    refine ct ?_
    refine rgi [] 1 [2, 1] [0] [] trivial ?_
    refine xw_ret ?_
    refine an_ret ?_
    exact bs (.f) (Or.inr <| ⟨(by first | rfl | omega | exact decide_eq_true (by omega) | exact decide_eq_false (by omega) | (refine ⟨by omega, by omega, by omega, by omega, by omega, by omega, bfs_all ‹_› (by omega)⟩) | (intro hr; obtain ⟨g1, g2, g3, g4, g5, g6, g7⟩ := hr; first | omega | (have g8 := g7.at (by omega) i1; omega))), rfl⟩)
  ·
   refine pc (rright_2 f0 f1 f2 ‹_›) ?_
   refine rki [] 1 3 [4, 3, 2, 1] [0] [] trivial ?_
   refine en ?_
   refine an ?_
   refine xw_seq ?_
   refine reg ?_
   refine rki [] 2 0 [16, 4, 3, 2, 1] [0] [True] ⟨trivial, trivial⟩ ?_
   by_cases h2 : (t0 = 0 ∨ t0 = 1) ∧ 0 ≤ t1 ∧ t1 ≤ t2 ∧ t2 ≤ 4096
   ·
    refine pc (rright_1 t0 t1 t2 ‹_›) ?_
    refine rki [] 1 3 [5, 4, 3, 2, 1] [0] [] trivial ?_
    refine en ?_
    refine an ?_
    refine xw_seq ?_
    refine rg [] 37 ⟨[(54, .t), (2, .f), (1, .p 0)], [(0, .cells (hp W xs ys f0 f1 f2 t0 t1 t2 sz lm ts ph scn fl os brk) 32)], 1⟩ [True, True, True, True, True] ⟨trivial, trivial, trivial, trivial, trivial, trivial⟩ ?_
    refine ct ?_
    refine rgi [] 1 [2, 1] [0] [] trivial ?_
    refine xw_ret ?_
    refine an_ret ?_
    exact bs (.f) (Or.inr <| ⟨(by first | rfl | omega | exact decide_eq_true (by omega) | exact decide_eq_false (by omega) | (refine ⟨by omega, by omega, by omega, by omega, by omega, by omega, bfs_all ‹_› (by omega)⟩) | (intro hr; obtain ⟨g1, g2, g3, g4, g5, g6, g7⟩ := hr; first | omega | (have g8 := g7.at (by omega) i1; omega))), rfl⟩)
   ·
    refine pc (rright_2 t0 t1 t2 ‹_›) ?_
    refine rki [] 1 3 [5, 4, 3, 2, 1] [0] [] trivial ?_
    refine en ?_
    refine an ?_
    refine xw_seq ?_
    refine rg [] 37 ⟨[(54, .t), (2, .f), (1, .p 0)], [(0, .cells (hp W xs ys f0 f1 f2 t0 t1 t2 sz lm ts ph scn fl os brk) 32)], 1⟩ [True, True, True, True, True] ⟨trivial, trivial, trivial, trivial, trivial, trivial⟩ ?_
    refine ct ?_
    refine rgi [] 1 [2, 1] [0] [] trivial ?_
    refine xw_ret ?_
    refine an_ret ?_
    exact bs (.f) (Or.inr <| ⟨(by first | rfl | omega | exact decide_eq_true (by omega) | exact decide_eq_false (by omega) | (refine ⟨by omega, by omega, by omega, by omega, by omega, by omega, bfs_all ‹_› (by omega)⟩) | (intro hr; obtain ⟨g1, g2, g3, g4, g5, g6, g7⟩ := hr; first | omega | (have g8 := g7.at (by omega) i1; omega))), rfl⟩)
 ·
  refine pc (rmright_2 W xs ys ‹_› ‹_›) ?_
  refine rki [] 1 3 [3, 2, 1] [0] [] trivial ?_
  refine en ?_
  refine an ?_
  refine xw_seq ?_
  refine reg ?_
  refine rk [] 2 0 ⟨[(13, .agg [.i f0, .i f1, .i f2]), (3, .f), (2, .f), (1, .p 0)], [(0, .cells (hp W xs ys f0 f1 f2 t0 t1 t2 sz lm ts ph scn fl os brk) 32)], 1⟩ [True] ⟨trivial, trivial⟩ ?_
  by_cases h1 : (f0 = 0 ∨ f0 = 1) ∧ 0 ≤ f1 ∧ f1 ≤ f2 ∧ f2 ≤ 4096
  ·
   refine pc (rright_1 f0 f1 f2 ‹_›) ?_
   refine rki [] 1 3 [4, 3, 2, 1] [0] [] trivial ?_
   refine en ?_
   refine an ?_
   refine xw_seq ?_
   refine reg ?_
   refine rki [] 2 0 [16, 4, 3, 2, 1] [0] [True] ⟨trivial, trivial⟩ ?_
   by_cases h2 : (t0 = 0 ∨ t0 = 1) ∧ 0 ≤ t1 ∧ t1 ≤ t2 ∧ t2 ≤ 4096
   ·
    refine pc (rright_1 t0 t1 t2 ‹_›) ?_
    refine rki [] 1 3 [5, 4, 3, 2, 1] [0] [] trivial ?_
    refine en ?_
    refine an ?_
    refine xw_seq ?_
    refine rg [] 37 ⟨[(54, .t), (2, .f), (1, .p 0)], [(0, .cells (hp W xs ys f0 f1 f2 t0 t1 t2 sz lm ts ph scn fl os brk) 32)], 1⟩ [True, True, True, True, True] ⟨trivial, trivial, trivial, trivial, trivial, trivial⟩ ?_
    refine ct ?_
    refine rgi [] 1 [2, 1] [0] [] trivial ?_
    refine xw_ret ?_
    refine an_ret ?_
    exact bs (.f) (Or.inr <| ⟨(by first | rfl | omega | exact decide_eq_true (by omega) | exact decide_eq_false (by omega) | (refine ⟨by omega, by omega, by omega, by omega, by omega, by omega, bfs_all ‹_› (by omega)⟩) | (intro hr; obtain ⟨g1, g2, g3, g4, g5, g6, g7⟩ := hr; first | omega | (have g8 := g7.at (by omega) i1; omega))), rfl⟩)
   ·
    refine pc (rright_2 t0 t1 t2 ‹_›) ?_
    refine rki [] 1 3 [5, 4, 3, 2, 1] [0] [] trivial ?_
    refine en ?_
    refine an ?_
    refine xw_seq ?_
    refine rg [] 37 ⟨[(54, .t), (2, .f), (1, .p 0)], [(0, .cells (hp W xs ys f0 f1 f2 t0 t1 t2 sz lm ts ph scn fl os brk) 32)], 1⟩ [True, True, True, True, True] ⟨trivial, trivial, trivial, trivial, trivial, trivial⟩ ?_
    refine ct ?_
    refine rgi [] 1 [2, 1] [0] [] trivial ?_
    refine xw_ret ?_
    refine an_ret ?_
    exact bs (.f) (Or.inr <| ⟨(by first | rfl | omega | exact decide_eq_true (by omega) | exact decide_eq_false (by omega) | (refine ⟨by omega, by omega, by omega, by omega, by omega, by omega, bfs_all ‹_› (by omega)⟩) | (intro hr; obtain ⟨g1, g2, g3, g4, g5, g6, g7⟩ := hr; first | omega | (have g8 := g7.at (by omega) i1; omega))), rfl⟩)
  ·
   refine pc (rright_2 f0 f1 f2 ‹_›) ?_
   refine rki [] 1 3 [4, 3, 2, 1] [0] [] trivial ?_
   refine en ?_
   refine an ?_
   refine xw_seq ?_
   refine reg ?_
   refine rki [] 2 0 [16, 4, 3, 2, 1] [0] [True] ⟨trivial, trivial⟩ ?_
   by_cases h2 : (t0 = 0 ∨ t0 = 1) ∧ 0 ≤ t1 ∧ t1 ≤ t2 ∧ t2 ≤ 4096
   ·
    refine pc (rright_1 t0 t1 t2 ‹_›) ?_
    refine rki [] 1 3 [5, 4, 3, 2, 1] [0] [] trivial ?_
    refine en ?_
    refine an ?_
    refine xw_seq ?_
    refine rg [] 37 ⟨[(54, .t), (2, .f), (1, .p 0)], [(0, .cells (hp W xs ys f0 f1 f2 t0 t1 t2 sz lm ts ph scn fl os brk) 32)], 1⟩ [True, True, True, True, True] ⟨trivial, trivial, trivial, trivial, trivial, trivial⟩ ?_
    refine ct ?_
    refine rgi [] 1 [2, 1] [0] [] trivial ?_
    refine xw_ret ?_
    refine an_ret ?_
    exact bs (.f) (Or.inr <| ⟨(by first | rfl | omega | exact decide_eq_true (by omega) | exact decide_eq_false (by omega) | (refine ⟨by omega, by omega, by omega, by omega, by omega, by omega, bfs_all ‹_› (by omega)⟩) | (intro hr; obtain ⟨g1, g2, g3, g4, g5, g6, g7⟩ := hr; first | omega | (have g8 := g7.at (by omega) i1; omega))), rfl⟩)
   ·
    refine pc (rright_2 t0 t1 t2 ‹_›) ?_
    refine rki [] 1 3 [5, 4, 3, 2, 1] [0] [] trivial ?_
    refine en ?_
    refine an ?_
    refine xw_seq ?_
    refine rg [] 37 ⟨[(54, .t), (2, .f), (1, .p 0)], [(0, .cells (hp W xs ys f0 f1 f2 t0 t1 t2 sz lm ts ph scn fl os brk) 32)], 1⟩ [True, True, True, True, True] ⟨trivial, trivial, trivial, trivial, trivial, trivial⟩ ?_
    refine ct ?_
    refine rgi [] 1 [2, 1] [0] [] trivial ?_
    refine xw_ret ?_
    refine an_ret ?_
    exact bs (.f) (Or.inr <| ⟨(by first | rfl | omega | exact decide_eq_true (by omega) | exact decide_eq_false (by omega) | (refine ⟨by omega, by omega, by omega, by omega, by omega, by omega, bfs_all ‹_› (by omega)⟩) | (intro hr; obtain ⟨g1, g2, g3, g4, g5, g6, g7⟩ := hr; first | omega | (have g8 := g7.at (by omega) i1; omega))), rfl⟩)

theorem hrightB_1 (W : Int) (xs ys : List Int) (f0 f1 f2 t0 t1 t2 sz lm : Int) (ts : List Th) (ph scn fl : Int) (os : List Int) (brk : Int) (hp0 : -9223372036854775808 ≤ W ∧ W ≤ 9223372036854775807) (hp1 : U64s xs) (hp2 : U64s ys) (hp3 : -9223372036854775808 ≤ f0 ∧ f0 ≤ 9223372036854775807) (hp4 : -9223372036854775808 ≤ f1 ∧ f1 ≤ 9223372036854775807) (hp5 : -9223372036854775808 ≤ f2 ∧ f2 ≤ 9223372036854775807) (hp6 : -9223372036854775808 ≤ t0 ∧ t0 ≤ 9223372036854775807) (hp7 : -9223372036854775808 ≤ t1 ∧ t1 ≤ 9223372036854775807) (hp8 : -9223372036854775808 ≤ t2 ∧ t2 ≤ 9223372036854775807) (hp9 : -9223372036854775808 ≤ sz ∧ sz ≤ 9223372036854775807) (hp10 : -9223372036854775808 ≤ lm ∧ lm ≤ 9223372036854775807) (hp11 : Ths ts) (hp12 : (ts.length : Int) * 144 ≤ 140737488355000) (hp13 : -9223372036854775808 ≤ ph ∧ ph ≤ 9223372036854775807) (hp14 : -9223372036854775808 ≤ scn ∧ scn ≤ 9223372036854775807) (hp15 : -9223372036854775808 ≤ fl ∧ fl ≤ 9223372036854775807) (hp16 : I64s os) (hp17 : (os.length : Int) * 8 ≤ 140737488355000) (hp18 : -9223372036854775808 ≤ brk ∧ brk ≤ 9223372036854775807) (hp19 : RGT W xs ys f0 f1 f2 t0 t1 t2 sz lm ts ph scn) : Pub Try.prog 11 [.agg (hp W xs ys f0 f1 f2 t0 t1 t2 sz lm ts ph scn fl os brk)] (fun rv => rv = .t) := by
  refine (hrightB W xs ys f0 f1 f2 t0 t1 t2 sz lm ts ph scn fl os brk hp0 hp1 hp2 hp3 hp4 hp5 hp6 hp7 hp8 hp9 hp10 hp11 hp12 hp13 hp14 hp15 hp16 hp17 hp18).mono ?_
  rintro _ (⟨g0, rfl⟩ | ⟨g0, rfl⟩)
  all_goals first | rfl | (exfalso; first | omega | grind)

theorem hrightB_2 (W : Int) (xs ys : List Int) (f0 f1 f2 t0 t1 t2 sz lm : Int) (ts : List Th) (ph scn fl : Int) (os : List Int) (brk : Int) (hp0 : -9223372036854775808 ≤ W ∧ W ≤ 9223372036854775807) (hp1 : U64s xs) (hp2 : U64s ys) (hp3 : -9223372036854775808 ≤ f0 ∧ f0 ≤ 9223372036854775807) (hp4 : -9223372036854775808 ≤ f1 ∧ f1 ≤ 9223372036854775807) (hp5 : -9223372036854775808 ≤ f2 ∧ f2 ≤ 9223372036854775807) (hp6 : -9223372036854775808 ≤ t0 ∧ t0 ≤ 9223372036854775807) (hp7 : -9223372036854775808 ≤ t1 ∧ t1 ≤ 9223372036854775807) (hp8 : -9223372036854775808 ≤ t2 ∧ t2 ≤ 9223372036854775807) (hp9 : -9223372036854775808 ≤ sz ∧ sz ≤ 9223372036854775807) (hp10 : -9223372036854775808 ≤ lm ∧ lm ≤ 9223372036854775807) (hp11 : Ths ts) (hp12 : (ts.length : Int) * 144 ≤ 140737488355000) (hp13 : -9223372036854775808 ≤ ph ∧ ph ≤ 9223372036854775807) (hp14 : -9223372036854775808 ≤ scn ∧ scn ≤ 9223372036854775807) (hp15 : -9223372036854775808 ≤ fl ∧ fl ≤ 9223372036854775807) (hp16 : I64s os) (hp17 : (os.length : Int) * 8 ≤ 140737488355000) (hp18 : -9223372036854775808 ≤ brk ∧ brk ≤ 9223372036854775807) (hp19 : ¬ (RGT W xs ys f0 f1 f2 t0 t1 t2 sz lm ts ph scn)) : Pub Try.prog 11 [.agg (hp W xs ys f0 f1 f2 t0 t1 t2 sz lm ts ph scn fl os brk)] (fun rv => rv = .f) := by
  refine (hrightB W xs ys f0 f1 f2 t0 t1 t2 sz lm ts ph scn fl os brk hp0 hp1 hp2 hp3 hp4 hp5 hp6 hp7 hp8 hp9 hp10 hp11 hp12 hp13 hp14 hp15 hp16 hp17 hp18).mono ?_
  rintro _ (⟨g0, rfl⟩ | ⟨g0, rfl⟩)
  all_goals first | rfl | (exfalso; first | omega | grind)

theorem fewB (W : Int) (xs ys : List Int) (f0 f1 f2 t0 t1 t2 sz lm : Int) (ts : List Th) (ph scn fl : Int) (os : List Int) (brk : Int) (hp0 : -9223372036854775808 ≤ W ∧ W ≤ 9223372036854775807) (hp1 : U64s xs) (hp2 : U64s ys) (hp3 : -9223372036854775808 ≤ f0 ∧ f0 ≤ 9223372036854775807) (hp4 : -9223372036854775808 ≤ f1 ∧ f1 ≤ 9223372036854775807) (hp5 : -9223372036854775808 ≤ f2 ∧ f2 ≤ 9223372036854775807) (hp6 : -9223372036854775808 ≤ t0 ∧ t0 ≤ 9223372036854775807) (hp7 : -9223372036854775808 ≤ t1 ∧ t1 ≤ 9223372036854775807) (hp8 : -9223372036854775808 ≤ t2 ∧ t2 ≤ 9223372036854775807) (hp9 : -9223372036854775808 ≤ sz ∧ sz ≤ 9223372036854775807) (hp10 : -9223372036854775808 ≤ lm ∧ lm ≤ 9223372036854775807) (hp11 : Ths ts) (hp12 : (ts.length : Int) * 144 ≤ 140737488355000) (hp13 : -9223372036854775808 ≤ ph ∧ ph ≤ 9223372036854775807) (hp14 : -9223372036854775808 ≤ scn ∧ scn ≤ 9223372036854775807) (hp15 : -9223372036854775808 ≤ fl ∧ fl ≤ 9223372036854775807) (hp16 : I64s os) (hp17 : (os.length : Int) * 8 ≤ 140737488355000) (hp18 : -9223372036854775808 ≤ brk ∧ brk ≤ 9223372036854775807) : Pub Try.prog 9 [.agg (hp W xs ys f0 f1 f2 t0 t1 t2 sz lm ts ph scn fl os brk)] (fun rv => ((RGT W xs ys f0 f1 f2 t0 t1 t2 sz lm ts ph scn) ∧ (W ≤ 200) ∧ rv = .t) ∨ ((¬ ((RGT W xs ys f0 f1 f2 t0 t1 t2 sz lm ts ph scn) ∧ (W ≤ 200))) ∧ rv = .f)) := by
 refine pub_of TT_ok Try.func9 rfl (by decide) (Nat.le_of_ble_eq_true (by kernel_rfl)) (by kernel_rfl) ?_
 refine rgi [] 2 [2, 1] [0] [] trivial ?_
 refine xw_seq ?_
 refine reg ?_
 refine rki [] 1 0 [4, 2, 1] [0] [True] ⟨trivial, trivial⟩ ?_
 by_cases h0 : RGT W xs ys f0 f1 f2 t0 t1 t2 sz lm ts ph scn
 ·
  refine pc (hrightB_1 W xs ys f0 f1 f2 t0 t1 t2 sz lm ts ph scn fl os brk ‹_› ‹_› ‹_› ‹_› ‹_› ‹_› ‹_› ‹_› ‹_› ‹_› ‹_› ‹_› (by omega) ‹_› ‹_› ‹_› ‹_› (by omega) ‹_› ‹_›) ?_
  refine rki [] 1 2 [3, 2, 1] [0] [] trivial ?_
  refine en ?_
  refine an ?_
  refine rg [(5, .bool (decide (W ≤ 200)))] 8 ⟨[(2, .bool (decide (W ≤ 200)))], [], 1⟩ [True, sm (decide (W ≤ 200)), True] ⟨trivial, rfl, trivial, trivial⟩ ?_
  refine xw_ret ?_
  by_cases h1 : W ≤ 200
  ·
   exact br (.bool (decide (W ≤ 200))) (.t) (wkd [(decide (W ≤ 200)) = true] (by kernel_rfl) ⟨(by first | rfl | omega | assumption | exact decide_eq_true (by omega) | exact decide_eq_false (by omega) | (intro hr; first | exact absurd hr.1 ‹_› | (have := hr.2; omega)) | (simp; omega)), trivial⟩) (Or.inl <| ⟨(by omega), (by omega), rfl⟩)
  ·
   exact br (.bool (decide (W ≤ 200))) (.f) (wkd [(decide (W ≤ 200)) = false] (by kernel_rfl) ⟨(by first | rfl | omega | assumption | exact decide_eq_true (by omega) | exact decide_eq_false (by omega) | (intro hr; first | exact absurd hr.1 ‹_› | (have := hr.2; omega)) | (simp; omega)), trivial⟩) (Or.inr <| ⟨(by omega), rfl⟩)
 ·
  refine pc (hrightB_2 W xs ys f0 f1 f2 t0 t1 t2 sz lm ts ph scn fl os brk ‹_› ‹_› ‹_› ‹_› ‹_› ‹_› ‹_› ‹_› ‹_› ‹_› ‹_› ‹_› (by omega) ‹_› ‹_› ‹_› ‹_› (by omega) ‹_› ‹_›) ?_
  refine rki [] 1 2 [3, 2, 1] [0] [] trivial ?_
  refine en ?_
  refine an ?_
  refine rg [] 8 ⟨[(2, .f)], [], 1⟩ [True] ⟨trivial, trivial⟩ ?_
  refine xw_ret ?_
  exact bs (.f) (Or.inr <| ⟨(by first | rfl | omega | assumption | exact decide_eq_true (by omega) | exact decide_eq_false (by omega) | (intro hr; first | exact absurd hr.1 ‹_› | (have := hr.2; omega)) | (simp; omega)), rfl⟩)

theorem fewB_1 (W : Int) (xs ys : List Int) (f0 f1 f2 t0 t1 t2 sz lm : Int) (ts : List Th) (ph scn fl : Int) (os : List Int) (brk : Int) (hp0 : -9223372036854775808 ≤ W ∧ W ≤ 9223372036854775807) (hp1 : U64s xs) (hp2 : U64s ys) (hp3 : -9223372036854775808 ≤ f0 ∧ f0 ≤ 9223372036854775807) (hp4 : -9223372036854775808 ≤ f1 ∧ f1 ≤ 9223372036854775807) (hp5 : -9223372036854775808 ≤ f2 ∧ f2 ≤ 9223372036854775807) (hp6 : -9223372036854775808 ≤ t0 ∧ t0 ≤ 9223372036854775807) (hp7 : -9223372036854775808 ≤ t1 ∧ t1 ≤ 9223372036854775807) (hp8 : -9223372036854775808 ≤ t2 ∧ t2 ≤ 9223372036854775807) (hp9 : -9223372036854775808 ≤ sz ∧ sz ≤ 9223372036854775807) (hp10 : -9223372036854775808 ≤ lm ∧ lm ≤ 9223372036854775807) (hp11 : Ths ts) (hp12 : (ts.length : Int) * 144 ≤ 140737488355000) (hp13 : -9223372036854775808 ≤ ph ∧ ph ≤ 9223372036854775807) (hp14 : -9223372036854775808 ≤ scn ∧ scn ≤ 9223372036854775807) (hp15 : -9223372036854775808 ≤ fl ∧ fl ≤ 9223372036854775807) (hp16 : I64s os) (hp17 : (os.length : Int) * 8 ≤ 140737488355000) (hp18 : -9223372036854775808 ≤ brk ∧ brk ≤ 9223372036854775807) (hp19 : RGT W xs ys f0 f1 f2 t0 t1 t2 sz lm ts ph scn) (hp20 : W ≤ 200) : Pub Try.prog 9 [.agg (hp W xs ys f0 f1 f2 t0 t1 t2 sz lm ts ph scn fl os brk)] (fun rv => rv = .t) := by
  refine (fewB W xs ys f0 f1 f2 t0 t1 t2 sz lm ts ph scn fl os brk hp0 hp1 hp2 hp3 hp4 hp5 hp6 hp7 hp8 hp9 hp10 hp11 hp12 hp13 hp14 hp15 hp16 hp17 hp18).mono ?_
  rintro _ (⟨g0, g1, rfl⟩ | ⟨g0, rfl⟩)
  all_goals first | rfl | (exfalso; first | omega | grind)

theorem fewB_2 (W : Int) (xs ys : List Int) (f0 f1 f2 t0 t1 t2 sz lm : Int) (ts : List Th) (ph scn fl : Int) (os : List Int) (brk : Int) (hp0 : -9223372036854775808 ≤ W ∧ W ≤ 9223372036854775807) (hp1 : U64s xs) (hp2 : U64s ys) (hp3 : -9223372036854775808 ≤ f0 ∧ f0 ≤ 9223372036854775807) (hp4 : -9223372036854775808 ≤ f1 ∧ f1 ≤ 9223372036854775807) (hp5 : -9223372036854775808 ≤ f2 ∧ f2 ≤ 9223372036854775807) (hp6 : -9223372036854775808 ≤ t0 ∧ t0 ≤ 9223372036854775807) (hp7 : -9223372036854775808 ≤ t1 ∧ t1 ≤ 9223372036854775807) (hp8 : -9223372036854775808 ≤ t2 ∧ t2 ≤ 9223372036854775807) (hp9 : -9223372036854775808 ≤ sz ∧ sz ≤ 9223372036854775807) (hp10 : -9223372036854775808 ≤ lm ∧ lm ≤ 9223372036854775807) (hp11 : Ths ts) (hp12 : (ts.length : Int) * 144 ≤ 140737488355000) (hp13 : -9223372036854775808 ≤ ph ∧ ph ≤ 9223372036854775807) (hp14 : -9223372036854775808 ≤ scn ∧ scn ≤ 9223372036854775807) (hp15 : -9223372036854775808 ≤ fl ∧ fl ≤ 9223372036854775807) (hp16 : I64s os) (hp17 : (os.length : Int) * 8 ≤ 140737488355000) (hp18 : -9223372036854775808 ≤ brk ∧ brk ≤ 9223372036854775807) (hp19 : ¬ ((RGT W xs ys f0 f1 f2 t0 t1 t2 sz lm ts ph scn) ∧ (W ≤ 200))) : Pub Try.prog 9 [.agg (hp W xs ys f0 f1 f2 t0 t1 t2 sz lm ts ph scn fl os brk)] (fun rv => rv = .f) := by
  refine (fewB W xs ys f0 f1 f2 t0 t1 t2 sz lm ts ph scn fl os brk hp0 hp1 hp2 hp3 hp4 hp5 hp6 hp7 hp8 hp9 hp10 hp11 hp12 hp13 hp14 hp15 hp16 hp17 hp18).mono ?_
  rintro _ (⟨g0, g1, rfl⟩ | ⟨g0, rfl⟩)
  all_goals first | rfl | (exfalso; first | omega | grind)

end Go.Proofs.Ytjchmajamlehmaa.X
