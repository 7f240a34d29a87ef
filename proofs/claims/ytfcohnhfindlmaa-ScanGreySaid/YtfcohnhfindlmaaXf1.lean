/- Contracts of Go functions: what each returns, for every input that its premises name; no memory of the caller is touched. Printed by a program. -/
import Derived.Test.YtfcohnhfindlmaaXe2
import Derived.Test.YtfcohnhfindlmaaXq6
import Derived.Test.YtfcohnhfindlmaaXv2
namespace Go.Proofs.Ytfcohnhfindlmaa.X
open Go Go.RowKit
set_option linter.unusedVariables false      -- a premise may serve only to tell which way is taken
set_option linter.unusedSimpArgs false
theorem wwithL (W : Int) (xs : List Int) (ys : List Int) (s : Int) (p : Int) (zs : List Int) (hp0 : 16 ≤ W ∧ W ≤ 4096) (hp1 : (xs.length : Int) = W) (hp2 : (ys.length : Int) = W) (hp3 : U64s xs) (hp4 : U64s ys) (hp5 : 0 ≤ s ∧ s ≤ 1) (hp6 : 0 ≤ p) (hp7 : 1 ≤ (zs.length : Int)) (hp8 : p + (zs.length : Int) ≤ W) : Pub Try.prog 62 [.agg (mm W xs ys), .int .i64 s, .int .i64 p, .sl false 1 (m64 zs)] (fun rv => ((s = 0) ∧ rv = .agg (mm W (spl xs p zs) ys)) ∨ ((s = 1) ∧ rv = .agg (mm W xs (spl ys p zs)))) := by
 refine pub_of TT_ok Try.func62 rfl (by decide) (Nat.le_of_ble_eq_true (by kernel_rfl)) (by kernel_rfl) ?_
 refine rg [] 2 ⟨[(8, .p 1), (4, .p 0), (1, .i s), (2, .i p), (3, .sl false 1 (m64 zs))], [(1, .cells [.i 0, .nils, .nils] 25), (0, .cells (mm W xs ys) 97)], 2⟩ [] trivial ?_
 refine rg [] 4 ⟨[(9, .p 2), (8, .p 1), (1, .i s), (2, .i p), (3, .sl false 1 (m64 zs))], [(2, .cells (mm W xs ys) 25), (1, .cells [.i 0, .nils, .nils] 25)], 3⟩ [True, True] ⟨trivial, trivial, trivial⟩ ?_
 refine xw_seq ?_
 refine reg ?_
 refine rk [] 3 0 ⟨[(14, .loc 2 1), (13, .i s), (12, .i s), (9, .p 2), (8, .p 1), (1, .i s), (2, .i p), (3, .sl false 1 (m64 zs))], [(2, .cells (mm W xs ys) 25), (1, .cells [.i 0, .nils, .nils] 25)], 3⟩ [] trivial ?_
 by_cases h0 : s = 0
 ·
  refine seti 13 (k := .i64) (x := s) (y := 0) (by kernel_rfl) (by omega) ?_
  refine rk [] 2 3 ⟨[(16, .sl false 1 (m64 xs)), (12, .i s), (9, .p 2), (8, .p 1), (1, .i s), (2, .i p), (3, .sl false 1 (m64 zs))], [(2, .cells (mm W xs ys) 25), (1, .cells [.i 0, .nils, .nils] 25)], 3⟩ [(0 : Int) ≤ 0 ∧ 0 < ((2 : Nat) : Int), True] ⟨(by constructor <;> omega), trivial, trivial⟩ ?_
  refine callx (f := 68) (args := [.sl false 1 (m64 xs)]) (d := (some 17)) (by kernel_rfl) (xcall_of TT_ok Try.func68 rfl (by decide) (Nat.le_of_ble_eq_true (by kernel_rfl)) ?_)
  refine rg [] 1 ⟨[(2, .nils), (0, .sl false 1 (m64 xs))], [(2, .cells (mm W xs ys) 25), (1, .cells [.i 0, .nils, .nils] 25)], 3⟩ [] trivial ?_
  refine xw_seq ?_
  refine rg [] 2 ⟨[(4, .f), (2, .nils), (0, .sl false 1 (m64 xs))], [(2, .cells (mm W xs ys) 25), (1, .cells [.i 0, .nils, .nils] 25)], 3⟩ [((m64 xs)) ≠ []] ⟨(ne_map (by first | omega | (simp only [len_st]; omega) | (simp; done) | (simp; omega) | (simp [len_st, len_stx, len_sty, len_zx, len_zy]; omega))), trivial⟩ ?_
  refine cf ?_
  refine xw_skip ?_
  refine an ?_
  refine xw_seq ?_
  refine reg ?_
  refine rk [] 3 0 ⟨[(7, .own 4), (2, .nils)], [(4, .row 1 41 (([]) ++ ((m64 xs)))), (2, .cells (mm W xs ys) 25), (1, .cells [.i 0, .nils, .nils] 25)], 5⟩ [(∀ y ∈ ((m64 xs) : List SV), ElemOk y) ∧ (false = true → 1 ≤ ((m64 xs) : List SV).length ∧ ∀ x ∈ ([] : List SV), ElemOk x) ∧ (([] : List SV).length + ((m64 xs) : List SV).length) * 8 ≤ 140737488355328 ∧ ([] : List SV).length + ((m64 xs) : List SV).length ≤ 4611686018427387904] ⟨⟨elem_map, (fun h => by cases h), by first | omega | (simp only [len_st]; omega) | (simp; done) | (simp; omega) | (simp [len_st, len_stx, len_sty, len_zx, len_zy]; omega), by first | omega | (simp only [len_st]; omega) | (simp; done) | (simp; omega) | (simp [len_st, len_stx, len_sty, len_zx, len_zy]; omega)⟩, trivial⟩ ?_
  refine setr 4 (z := 1) (E := 41) (L := (([]) ++ ((m64 xs)))) (L' := (m64 xs)) (by kernel_rfl) nil_app ?_
  refine rk [] 1 3 ⟨[(2, .own 4)], [(4, .row 1 41 (m64 xs)), (2, .cells (mm W xs ys) 25), (1, .cells [.i 0, .nils, .nils] 25)], 5⟩ [] trivial ?_
  refine en ?_
  refine an ?_
  refine xw_ret ?_
  refine ⟨.own 4, by kernel_rfl, ?_⟩
  show XOi _ _ _ _ _ _ _ ⟨[(17, .own 4), (16, .sl false 1 (m64 xs)), (12, .int .i64 s), (9, .loc 2 0), (8, .loc 1 0), (1, .int .i64 s), (2, .int .i64 p), (3, .sl false 1 (m64 zs))], [(4, .row 1 41 (m64 xs)), (2, .cells (mm W xs ys) 25), (1, .cells [.int .i64 0, .nils, .nils] 25)], 5⟩
  refine rk [] 1 6 ⟨[(18, .loc 2 1), (17, .own 4), (12, .i s), (9, .p 2), (8, .p 1), (1, .i s), (2, .i p), (3, .sl false 1 (m64 zs))], [(4, .row 1 41 (m64 xs)), (2, .cells (mm W xs ys) 25), (1, .cells [.i 0, .nils, .nils] 25)], 5⟩ [] trivial ?_
  refine seti 12 (k := .i64) (x := s) (y := 0) (by kernel_rfl) (by omega) ?_
  refine rk [] 2 7 ⟨[(9, .p 2), (8, .p 1), (1, .i s), (2, .i p), (3, .sl false 1 (m64 zs))], [(4, .row 1 41 (m64 xs)), (2, .cells [.i W, .own 4, .sl false 1 (m64 ys)] 25), (1, .cells [.i 0, .nils, .nils] 25)], 5⟩ [(0 : Int) ≤ 0 ∧ 0 < ((2 : Nat) : Int), True] ⟨(by constructor <;> omega), trivial, trivial⟩ ?_
  refine en ?_
  refine an ?_
  refine xw_seq ?_
  refine reg ?_
  refine rk [] 2 0 ⟨[(21, .loc 2 1), (20, .i s), (9, .p 2), (8, .p 1), (2, .i p), (3, .sl false 1 (m64 zs))], [(4, .row 1 41 (m64 xs)), (2, .cells [.i W, .own 4, .sl false 1 (m64 ys)] 25), (1, .cells [.i 0, .nils, .nils] 25)], 5⟩ [] trivial ?_
  refine seti 20 (k := .i64) (x := s) (y := 0) (by kernel_rfl) (by omega) ?_
  refine rk [(7, .i (zs.length : Int))] 6 2 ⟨[(9, .p 2), (8, .p 1)], [(4, .row 1 41 ((((m64 xs) : List SV)).take (p : Int).toNat ++ (((m64 zs) : List SV)).take (((m64 xs)).length - (p : Int).toNat) ++ (((m64 xs) : List SV)).drop ((p : Int).toNat + ((((m64 zs) : List SV)).take (((m64 xs)).length - (p : Int).toNat)).length))), (2, .cells [.i W, .own 4, .sl false 1 (m64 ys)] 25), (1, .cells [.i 0, .nils, .nils] 25)], 5⟩ [(0 : Int) ≤ 0 ∧ 0 < ((2 : Nat) : Int), True, (0 : Int) ≤ p ∧ p ≤ ((((m64 xs)).length : Nat) : Int) ∧ ((m64 xs)) ≠ [], (((((((m64 zs) : List SV)).take (((m64 xs)).length - (p : Int).toNat)).length : Nat) : Int) = (zs.length : Int) ∧ (p : Int).toNat + (((m64 xs)).length - (p : Int).toNat) = (((m64 xs) : List SV)).length ∧ 1 ≤ (((m64 xs)).length - (p : Int).toNat) ∧ 1 ≤ (((m64 zs) : List SV)).length ∧ ∀ y ∈ (((m64 zs) : List SV)), ElemOk y)] ⟨(by constructor <;> omega), trivial, ⟨by omega, by first | omega | (simp only [len_st]; omega) | (simp; done) | (simp; omega) | (simp [len_st, len_stx, len_sty, len_zx, len_zy]; omega), ne_map (by first | omega | (simp only [len_st]; omega) | (simp; done) | (simp; omega) | (simp [len_st, len_stx, len_sty, len_zx, len_zy]; omega))⟩, ⟨by simp; omega, by simp; omega, by simp; omega, by simp; omega, elem_map⟩, trivial⟩ ?_
  refine en ?_
  refine an ?_
  refine rg [] 2 ⟨[(8, .p 1)], [(4, .row 1 41 ((((m64 xs) : List SV)).take (p : Int).toNat ++ (((m64 zs) : List SV)).take (((m64 xs)).length - (p : Int).toNat) ++ (((m64 xs) : List SV)).drop ((p : Int).toNat + ((((m64 zs) : List SV)).take (((m64 xs)).length - (p : Int).toNat)).length))), (1, .cells [.i W, .own 4, .sl false 1 (m64 ys)] 25)], 5⟩ [True, True] ⟨trivial, trivial, trivial⟩ ?_
  refine xw_ret ?_
  exact bk_ret (.agg [.i W, .own 4, .sl false 1 (m64 ys)]) (.agg [.i W, .sl false 1 ((((m64 xs) : List SV)).take (p : Int).toNat ++ (((m64 zs) : List SV)).take (((m64 xs)).length - (p : Int).toNat) ++ (((m64 xs) : List SV)).drop ((p : Int).toNat + ((((m64 zs) : List SV)).take (((m64 xs)).length - (p : Int).toNat)).length)), .sl false 1 (m64 ys)]) (.agg (mm W (spl xs p zs) ys)) (by kernel_rfl) (by kernel_rfl) (wkd [(W : Int) = W, (false = true → false = true), ((((m64 xs) : List SV)).take (p : Int).toNat ++ (((m64 zs) : List SV)).take (((m64 xs)).length - (p : Int).toNat) ++ (((m64 xs) : List SV)).drop ((p : Int).toNat + ((((m64 zs) : List SV)).take (((m64 xs)).length - (p : Int).toNat)).length)) = (m64 (spl xs p zs)), (false = true → false = true), (m64 ys) = (m64 ys)] (by kernel_rfl) ⟨rfl, id, (by first | rfl | omega | exact spliceL (by omega) (by omega)), id, rfl, trivial⟩) (Or.inl <| ⟨(by omega), rfl⟩)
 ·
  refine seti 13 (k := .i64) (x := s) (y := 1) (by kernel_rfl) (by omega) ?_
  refine rk [] 2 3 ⟨[(16, .sl false 1 (m64 ys)), (12, .i s), (9, .p 2), (8, .p 1), (1, .i s), (2, .i p), (3, .sl false 1 (m64 zs))], [(2, .cells (mm W xs ys) 25), (1, .cells [.i 0, .nils, .nils] 25)], 3⟩ [(0 : Int) ≤ 1 ∧ 1 < ((2 : Nat) : Int), True] ⟨(by constructor <;> omega), trivial, trivial⟩ ?_
  refine callx (f := 68) (args := [.sl false 1 (m64 ys)]) (d := (some 17)) (by kernel_rfl) (xcall_of TT_ok Try.func68 rfl (by decide) (Nat.le_of_ble_eq_true (by kernel_rfl)) ?_)
  refine rg [] 1 ⟨[(2, .nils), (0, .sl false 1 (m64 ys))], [(2, .cells (mm W xs ys) 25), (1, .cells [.i 0, .nils, .nils] 25)], 3⟩ [] trivial ?_
  refine xw_seq ?_
  refine rg [] 2 ⟨[(4, .f), (2, .nils), (0, .sl false 1 (m64 ys))], [(2, .cells (mm W xs ys) 25), (1, .cells [.i 0, .nils, .nils] 25)], 3⟩ [((m64 ys)) ≠ []] ⟨(ne_map (by first | omega | (simp only [len_st]; omega) | (simp; done) | (simp; omega) | (simp [len_st, len_stx, len_sty, len_zx, len_zy]; omega))), trivial⟩ ?_
  refine cf ?_
  refine xw_skip ?_
  refine an ?_
  refine xw_seq ?_
  refine reg ?_
  refine rk [] 3 0 ⟨[(7, .own 4), (2, .nils)], [(4, .row 1 41 (([]) ++ ((m64 ys)))), (2, .cells (mm W xs ys) 25), (1, .cells [.i 0, .nils, .nils] 25)], 5⟩ [(∀ y ∈ ((m64 ys) : List SV), ElemOk y) ∧ (false = true → 1 ≤ ((m64 ys) : List SV).length ∧ ∀ x ∈ ([] : List SV), ElemOk x) ∧ (([] : List SV).length + ((m64 ys) : List SV).length) * 8 ≤ 140737488355328 ∧ ([] : List SV).length + ((m64 ys) : List SV).length ≤ 4611686018427387904] ⟨⟨elem_map, (fun h => by cases h), by first | omega | (simp only [len_st]; omega) | (simp; done) | (simp; omega) | (simp [len_st, len_stx, len_sty, len_zx, len_zy]; omega), by first | omega | (simp only [len_st]; omega) | (simp; done) | (simp; omega) | (simp [len_st, len_stx, len_sty, len_zx, len_zy]; omega)⟩, trivial⟩ ?_
  refine setr 4 (z := 1) (E := 41) (L := (([]) ++ ((m64 ys)))) (L' := (m64 ys)) (by kernel_rfl) nil_app ?_
  refine rk [] 1 3 ⟨[(2, .own 4)], [(4, .row 1 41 (m64 ys)), (2, .cells (mm W xs ys) 25), (1, .cells [.i 0, .nils, .nils] 25)], 5⟩ [] trivial ?_
  refine en ?_
  refine an ?_
  refine xw_ret ?_
  refine ⟨.own 4, by kernel_rfl, ?_⟩
  show XOi _ _ _ _ _ _ _ ⟨[(17, .own 4), (16, .sl false 1 (m64 ys)), (12, .int .i64 s), (9, .loc 2 0), (8, .loc 1 0), (1, .int .i64 s), (2, .int .i64 p), (3, .sl false 1 (m64 zs))], [(4, .row 1 41 (m64 ys)), (2, .cells (mm W xs ys) 25), (1, .cells [.int .i64 0, .nils, .nils] 25)], 5⟩
  refine rk [] 1 6 ⟨[(18, .loc 2 1), (17, .own 4), (12, .i s), (9, .p 2), (8, .p 1), (1, .i s), (2, .i p), (3, .sl false 1 (m64 zs))], [(4, .row 1 41 (m64 ys)), (2, .cells (mm W xs ys) 25), (1, .cells [.i 0, .nils, .nils] 25)], 5⟩ [] trivial ?_
  refine seti 12 (k := .i64) (x := s) (y := 1) (by kernel_rfl) (by omega) ?_
  refine rk [] 2 7 ⟨[(9, .p 2), (8, .p 1), (1, .i s), (2, .i p), (3, .sl false 1 (m64 zs))], [(4, .row 1 41 (m64 ys)), (2, .cells [.i W, .sl false 1 (m64 xs), .own 4] 25), (1, .cells [.i 0, .nils, .nils] 25)], 5⟩ [(0 : Int) ≤ 1 ∧ 1 < ((2 : Nat) : Int), True] ⟨(by constructor <;> omega), trivial, trivial⟩ ?_
  refine en ?_
  refine an ?_
  refine xw_seq ?_
  refine reg ?_
  refine rk [] 2 0 ⟨[(21, .loc 2 1), (20, .i s), (9, .p 2), (8, .p 1), (2, .i p), (3, .sl false 1 (m64 zs))], [(4, .row 1 41 (m64 ys)), (2, .cells [.i W, .sl false 1 (m64 xs), .own 4] 25), (1, .cells [.i 0, .nils, .nils] 25)], 5⟩ [] trivial ?_
  refine seti 20 (k := .i64) (x := s) (y := 1) (by kernel_rfl) (by omega) ?_
  refine rk [(7, .i (zs.length : Int))] 6 2 ⟨[(9, .p 2), (8, .p 1)], [(4, .row 1 41 ((((m64 ys) : List SV)).take (p : Int).toNat ++ (((m64 zs) : List SV)).take (((m64 ys)).length - (p : Int).toNat) ++ (((m64 ys) : List SV)).drop ((p : Int).toNat + ((((m64 zs) : List SV)).take (((m64 ys)).length - (p : Int).toNat)).length))), (2, .cells [.i W, .sl false 1 (m64 xs), .own 4] 25), (1, .cells [.i 0, .nils, .nils] 25)], 5⟩ [(0 : Int) ≤ 1 ∧ 1 < ((2 : Nat) : Int), True, (0 : Int) ≤ p ∧ p ≤ ((((m64 ys)).length : Nat) : Int) ∧ ((m64 ys)) ≠ [], (((((((m64 zs) : List SV)).take (((m64 ys)).length - (p : Int).toNat)).length : Nat) : Int) = (zs.length : Int) ∧ (p : Int).toNat + (((m64 ys)).length - (p : Int).toNat) = (((m64 ys) : List SV)).length ∧ 1 ≤ (((m64 ys)).length - (p : Int).toNat) ∧ 1 ≤ (((m64 zs) : List SV)).length ∧ ∀ y ∈ (((m64 zs) : List SV)), ElemOk y)] ⟨(by constructor <;> omega), trivial, ⟨by omega, by first | omega | (simp only [len_st]; omega) | (simp; done) | (simp; omega) | (simp [len_st, len_stx, len_sty, len_zx, len_zy]; omega), ne_map (by first | omega | (simp only [len_st]; omega) | (simp; done) | (simp; omega) | (simp [len_st, len_stx, len_sty, len_zx, len_zy]; omega))⟩, ⟨by simp; omega, by simp; omega, by simp; omega, by simp; omega, elem_map⟩, trivial⟩ ?_
  refine en ?_
  refine an ?_
  refine rg [] 2 ⟨[(8, .p 1)], [(4, .row 1 41 ((((m64 ys) : List SV)).take (p : Int).toNat ++ (((m64 zs) : List SV)).take (((m64 ys)).length - (p : Int).toNat) ++ (((m64 ys) : List SV)).drop ((p : Int).toNat + ((((m64 zs) : List SV)).take (((m64 ys)).length - (p : Int).toNat)).length))), (1, .cells [.i W, .sl false 1 (m64 xs), .own 4] 25)], 5⟩ [True, True] ⟨trivial, trivial, trivial⟩ ?_
  refine xw_ret ?_
  exact bk_ret (.agg [.i W, .sl false 1 (m64 xs), .own 4]) (.agg [.i W, .sl false 1 (m64 xs), .sl false 1 ((((m64 ys) : List SV)).take (p : Int).toNat ++ (((m64 zs) : List SV)).take (((m64 ys)).length - (p : Int).toNat) ++ (((m64 ys) : List SV)).drop ((p : Int).toNat + ((((m64 zs) : List SV)).take (((m64 ys)).length - (p : Int).toNat)).length))]) (.agg (mm W xs (spl ys p zs))) (by kernel_rfl) (by kernel_rfl) (wkd [(W : Int) = W, (false = true → false = true), (m64 xs) = (m64 xs), (false = true → false = true), ((((m64 ys) : List SV)).take (p : Int).toNat ++ (((m64 zs) : List SV)).take (((m64 ys)).length - (p : Int).toNat) ++ (((m64 ys) : List SV)).drop ((p : Int).toNat + ((((m64 zs) : List SV)).take (((m64 ys)).length - (p : Int).toNat)).length)) = (m64 (spl ys p zs))] (by kernel_rfl) ⟨rfl, id, rfl, id, (by first | rfl | omega | exact spliceL (by omega) (by omega)), trivial⟩) (Or.inr <| ⟨(by omega), rfl⟩)

theorem wwithL_1 (W : Int) (xs : List Int) (ys : List Int) (s : Int) (p : Int) (zs : List Int) (hp0 : 16 ≤ W ∧ W ≤ 4096) (hp1 : (xs.length : Int) = W) (hp2 : (ys.length : Int) = W) (hp3 : U64s xs) (hp4 : U64s ys) (hp5 : 0 ≤ s ∧ s ≤ 1) (hp6 : 0 ≤ p) (hp7 : 1 ≤ (zs.length : Int)) (hp8 : p + (zs.length : Int) ≤ W) (hp9 : s = 0) : Pub Try.prog 62 [.agg (mm W xs ys), .int .i64 s, .int .i64 p, .sl false 1 (m64 zs)] (fun rv => rv = .agg (mm W (spl xs p zs) ys)) := by
  refine (wwithL W xs ys s p zs hp0 hp1 hp2 hp3 hp4 hp5 hp6 hp7 hp8).mono ?_
  rintro _ (⟨g0, rfl⟩ | ⟨g0, rfl⟩)
  · rfl
  · exfalso; first | omega | grind

theorem wwithL_2 (W : Int) (xs : List Int) (ys : List Int) (s : Int) (p : Int) (zs : List Int) (hp0 : 16 ≤ W ∧ W ≤ 4096) (hp1 : (xs.length : Int) = W) (hp2 : (ys.length : Int) = W) (hp3 : U64s xs) (hp4 : U64s ys) (hp5 : 0 ≤ s ∧ s ≤ 1) (hp6 : 0 ≤ p) (hp7 : 1 ≤ (zs.length : Int)) (hp8 : p + (zs.length : Int) ≤ W) (hp9 : s = 1) : Pub Try.prog 62 [.agg (mm W xs ys), .int .i64 s, .int .i64 p, .sl false 1 (m64 zs)] (fun rv => rv = .agg (mm W xs (spl ys p zs))) := by
  refine (wwithL W xs ys s p zs hp0 hp1 hp2 hp3 hp4 hp5 hp6 hp7 hp8).mono ?_
  rintro _ (⟨g0, rfl⟩ | ⟨g0, rfl⟩)
  · exfalso; first | omega | grind
  · rfl

set_option maxHeartbeats 8000000 in
theorem amove (W : Int) (xs : List Int) (ys : List Int) (a : Int) (c : Int) (n : Int) (hp0 : 16 ≤ W ∧ W ≤ 4096) (hp1 : (xs.length : Int) = W) (hp2 : (ys.length : Int) = W) (hp3 : U64s xs) (hp4 : U64s ys) (hp5 : 0 ≤ a ∧ a ≤ 18446744073709551615) (hp6 : 0 ≤ c ∧ c ≤ 18446744073709551615) (hp7 : 1 ≤ n ∧ n ≤ 4096) : Pub Try.prog 39 [.agg (mm W xs ys), .int .u64 a, .int .u64 c, .int .i64 n] (fun rv => ((1 ≤ a / 4294967296 ∧ a / 4294967296 ≤ 2 ∧ a % 4294967296 + n ≤ W) ∧ (1 ≤ c / 4294967296 ∧ c / 4294967296 ≤ 2 ∧ c % 4294967296 + n ≤ W) ∧ rv = .tup [.agg (mm W (mvx xs ys a c n) (mvy xs ys a c n)), .int .i64 0]) ∨ ((¬ ((1 ≤ a / 4294967296 ∧ a / 4294967296 ≤ 2 ∧ a % 4294967296 + n ≤ W) ∧ (1 ≤ c / 4294967296 ∧ c / 4294967296 ≤ 2 ∧ c % 4294967296 + n ≤ W))) ∧ rv = .tup [.agg (mm W xs ys), .int .i64 2])) := by
 refine pub_of TT_ok Try.func39 rfl (by decide) (Nat.le_of_ble_eq_true (by kernel_rfl)) (by kernel_rfl) ?_
 refine rg [] 3 ⟨[(9, .i 0), (8, .p 1), (4, .p 0), (1, .u a), (2, .u c), (3, .i n)], [(1, .cells [.i 0, .nils, .nils] 25), (0, .cells (mm W xs ys) 25)], 2⟩ [] trivial ?_
 refine xw_seq ?_
 refine rg [(1, .f)] 2 ⟨[(17, .f), (9, .i 0), (8, .p 1), (4, .p 0), (1, .u a), (2, .u c), (3, .i n)], [(1, .cells [.i 0, .nils, .nils] 25), (0, .cells (mm W xs ys) 25)], 2⟩ [(decide (n < 0)) = false] ⟨decide_eq_false (by omega), trivial⟩ ?_
 refine cf ?_
 refine xw_skip ?_
 refine an ?_
 refine xw_seq ?_
 refine reg ?_
 refine rk [] 4 0 ⟨[(23, .i n), (22, .u a), (21, .agg (mm W xs ys)), (9, .i 0), (8, .p 1), (4, .p 0), (2, .u c), (3, .i n)], [(1, .cells [.i 0, .nils, .nils] 25), (0, .cells (mm W xs ys) 25)], 2⟩ [True] ⟨trivial, trivial⟩ ?_
 by_cases h0 : 1 ≤ a / 4294967296 ∧ a / 4294967296 ≤ 2 ∧ a % 4294967296 < W ∧ 0 ≤ n ∧ a % 4294967296 + n ≤ W
 ·
  refine pc (wthere_1 W xs ys a n ‹_› ‹_› ‹_› ‹_› ‹_› ‹_› (by omega) (by omega)) ?_
  refine rk [] 7 5 ⟨[(12, .t), (11, .i (a % 4294967296)), (10, .i (a / 4294967296 - 1)), (9, .i 0), (8, .p 1), (4, .p 0), (2, .u c), (3, .i n)], [(1, .cells [.i 0, .nils, .nils] 25), (0, .cells (mm W xs ys) 25)], 2⟩ [] trivial ?_
  refine en ?_
  refine an ?_
  refine xw_seq ?_
  refine reg ?_
  refine rk [] 4 0 ⟨[(32, .i n), (31, .u c), (30, .agg (mm W xs ys)), (12, .t), (11, .i (a % 4294967296)), (10, .i (a / 4294967296 - 1)), (9, .i 0), (8, .p 1), (4, .p 0), (3, .i n)], [(1, .cells [.i 0, .nils, .nils] 25), (0, .cells (mm W xs ys) 25)], 2⟩ [True] ⟨trivial, trivial⟩ ?_
  by_cases h1 : 1 ≤ c / 4294967296 ∧ c / 4294967296 ≤ 2 ∧ c % 4294967296 < W ∧ 0 ≤ n ∧ c % 4294967296 + n ≤ W
  ·
   refine pc (wthere_1 W xs ys c n ‹_› ‹_› ‹_› ‹_› ‹_› ‹_› (by omega) (by omega)) ?_
   refine rk [] 7 5 ⟨[(15, .t), (14, .i (c % 4294967296)), (13, .i (c / 4294967296 - 1)), (12, .t), (11, .i (a % 4294967296)), (10, .i (a / 4294967296 - 1)), (9, .i 0), (8, .p 1), (4, .p 0), (3, .i n)], [(1, .cells [.i 0, .nils, .nils] 25), (0, .cells (mm W xs ys) 25)], 2⟩ [] trivial ?_
   refine en ?_
   refine an ?_
   refine xw_seq ?_
   refine rg [] 6 ⟨[(42, .f), (14, .i (c % 4294967296)), (13, .i (c / 4294967296 - 1)), (11, .i (a % 4294967296)), (10, .i (a / 4294967296 - 1)), (9, .i 0), (8, .p 1), (4, .p 0), (3, .i n)], [(1, .cells [.i 0, .nils, .nils] 25), (0, .cells (mm W xs ys) 25)], 2⟩ [True] ⟨trivial, trivial⟩ ?_
   refine cf ?_
   refine xw_skip ?_
   refine an ?_
   refine xw_seq ?_
   by_cases h2 : (a / 4294967296 - 1) = 0
   ·
    by_cases h3 : (c / 4294967296 - 1) = 0
    ·
     refine sreg hmix [([(1, .cells [.i 0, .nils, .nils] 25), (0, .cells (mm W xs ys) 25)], 2), ([(1, .cells (mm W (spl xs (c % 4294967296) ((xs.take ((((a % 4294967296) + n) : Int).toNat)).drop (((a % 4294967296) : Int).toNat))) ys) 25), (0, .cells (mm W xs ys) 25)], 2)] [14] [(1, [0]), (6, [4, 5]), (7, [4, 5, 6]), (11, [9, 10]), (12, [4, 5, 6, 7, 8, 9, 10, 11]), (13, [0, 1, 2, 3, 4, 5, 6, 7, 8, 9, 10, 11, 12]), (14, [0, 1, 2, 3, 4, 5, 6, 7, 8, 9, 10, 11, 12, 13]), (15, [0, 1, 2, 3, 4, 5, 6, 7, 8, 9, 10, 11, 12, 13, 14])] (by kernel_rfl) (by kernel_rfl) (by kernel_rfl) (by kernel_rfl) (by kernel_rfl) ?_
     refine sr [] 6 0 [(49, .loc 0 1), (48, .i (a / 4294967296 - 1)), (47, .i (c % 4294967296)), (46, .i (c / 4294967296 - 1)), (45, .agg (mm W xs ys)), (44, .agg (mm W xs ys)), (42, .f), (14, .i (c % 4294967296)), (13, .i (c / 4294967296 - 1)), (11, .i (a % 4294967296)), (10, .i (a / 4294967296 - 1)), (9, .i 0), (8, .p 1), (4, .p 0), (3, .i n)] [True, True, True, True, True, True] ⟨trivial, trivial, trivial, trivial, trivial, trivial, trivial⟩ ?_
     refine sseti 48 (k := .i64) (x := (a / 4294967296 - 1)) (y := 0) (by kernel_rfl) (by omega) ?_
     refine sr [(11, .i ((a % 4294967296) + n))] 7 6 [(56, .sl false 1 ((((m64 xs)).take (((a % 4294967296) + n) : Int).toNat).drop ((a % 4294967296) : Int).toNat)), (55, .i ((a % 4294967296) + n)), (54, .i n), (53, .i (a % 4294967296)), (52, .i (a % 4294967296)), (51, .sl false 1 (m64 xs)), (50, .loc 0 1), (48, .i 0), (49, .loc 0 1), (48, .i (a / 4294967296 - 1)), (47, .i (c % 4294967296)), (46, .i (c / 4294967296 - 1)), (45, .agg (mm W xs ys)), (44, .agg (mm W xs ys)), (42, .f), (14, .i (c % 4294967296)), (13, .i (c / 4294967296 - 1)), (11, .i (a % 4294967296)), (10, .i (a / 4294967296 - 1)), (9, .i 0), (8, .p 1), (4, .p 0), (3, .i n)] [(0 : Int) ≤ 0 ∧ 0 < ((2 : Nat) : Int), True, True, True, True, IntKind.i64.wrap ((a % 4294967296) + n) = ((a % 4294967296) + n), (0 : Int) ≤ (a % 4294967296) ∧ (a % 4294967296) ≤ ((a % 4294967296) + n) ∧ ((a % 4294967296) + n) ≤ ((((m64 xs)).length : Nat) : Int)] ⟨(by constructor <;> omega), trivial, trivial, trivial, trivial, i64_eq (by omega) (by omega), ⟨by omega, by omega, by first | omega | (simp only [len_st]; omega) | (simp; done) | (simp; omega) | (simp [len_st, len_stx, len_sty, len_zx, len_zy]; omega)⟩, trivial⟩ ?_
     refine ssets 56 (x := false) (z := 1) (L := ((((m64 xs)).take (((a % 4294967296) + n) : Int).toNat).drop ((a % 4294967296) : Int).toNat)) (L' := (m64 ((xs.take ((((a % 4294967296) + n) : Int).toNat)).drop (((a % 4294967296) : Int).toNat)))) (by kernel_rfl) cut_map ?_
     refine sc (wwithL_1 W xs ys (c / 4294967296 - 1) (c % 4294967296) ((xs.take ((((a % 4294967296) + n) : Int).toNat)).drop (((a % 4294967296) : Int).toNat)) ‹_› ‹_› ‹_› ‹_› ‹_› (by omega) (by omega) (by first | omega | assumption | rfl | (rw [len_zx]; assumption) | (rw [len_zy]; assumption) | exact U64s.zx (by assumption) _ _ | exact U64s.zy (by assumption) _ _ | exact U64s.rep _ | decide | (simp; done) | (simp; omega)) (by first | omega | assumption | rfl | (rw [len_zx]; assumption) | (rw [len_zy]; assumption) | exact U64s.zx (by assumption) _ _ | exact U64s.zy (by assumption) _ _ | exact U64s.rep _ | decide | (simp; done) | (simp; omega)) ‹_›) ?_
     refine sr [] 2 14 [(9, .i 0), (57, .agg (mm W (spl xs (c % 4294967296) ((xs.take ((((a % 4294967296) + n) : Int).toNat)).drop (((a % 4294967296) : Int).toNat))) ys)), (56, .sl false 1 (m64 ((xs.take ((((a % 4294967296) + n) : Int).toNat)).drop (((a % 4294967296) : Int).toNat)))), (56, .sl false 1 ((((m64 xs)).take (((a % 4294967296) + n) : Int).toNat).drop ((a % 4294967296) : Int).toNat)), (55, .i ((a % 4294967296) + n)), (54, .i n), (53, .i (a % 4294967296)), (52, .i (a % 4294967296)), (51, .sl false 1 (m64 xs)), (50, .loc 0 1), (48, .i 0), (49, .loc 0 1), (48, .i (a / 4294967296 - 1)), (47, .i (c % 4294967296)), (46, .i (c / 4294967296 - 1)), (45, .agg (mm W xs ys)), (44, .agg (mm W xs ys)), (42, .f), (14, .i (c % 4294967296)), (13, .i (c / 4294967296 - 1)), (11, .i (a % 4294967296)), (10, .i (a / 4294967296 - 1)), (9, .i 0), (8, .p 1), (4, .p 0), (3, .i n)] [True, ([(1, .cells (mm W (spl xs (c % 4294967296) ((xs.take ((((a % 4294967296) + n) : Int).toNat)).drop (((a % 4294967296) : Int).toNat))) ys) 25), (0, .cells (mm W xs ys) 25)] : Mem) = [(1, .cells (mm W (spl xs (c % 4294967296) ((xs.take ((((a % 4294967296) + n) : Int).toNat)).drop (((a % 4294967296) : Int).toNat))) ys) 25), (0, .cells (mm W xs ys) 25)], (2 : Nat) = 2, True] ⟨trivial, rfl, rfl, trivial, trivial⟩ ?_
     refine sen ?_
     refine an ?_
     refine xw_ret ?_
     exact bk_ret (.tup [.agg (mm W (spl xs (c % 4294967296) ((xs.take ((((a % 4294967296) + n) : Int).toNat)).drop (((a % 4294967296) : Int).toNat))) ys), .i 0]) (.tup [.agg (mm W (spl xs (c % 4294967296) ((xs.take ((((a % 4294967296) + n) : Int).toNat)).drop (((a % 4294967296) : Int).toNat))) ys), .i 0]) (.tup [.agg (mm W (mvx xs ys a c n) (mvy xs ys a c n)), .i 0]) (by kernel_rfl) (by kernel_rfl) (wkd [(W : Int) = W, (false = true → false = true), (m64 (spl xs (c % 4294967296) ((xs.take ((((a % 4294967296) + n) : Int).toNat)).drop (((a % 4294967296) : Int).toNat)))) = (m64 (mvx xs ys a c n)), (false = true → false = true), (m64 ys) = (m64 (mvy xs ys a c n)), (0 : Int) = 0] (by kernel_rfl) ⟨rfl, id, (by first | rfl | exact congrArg _ (mvx_11 (by omega) (by omega)).symm | exact congrArg _ (mvx_12 (by omega) (by omega)).symm | exact congrArg _ (mvx_2 (by omega)).symm | exact congrArg _ (mvy_1 (by omega)).symm | exact congrArg _ (mvy_21 (by omega) (by omega)).symm | exact congrArg _ (mvy_22 (by omega) (by omega)).symm), id, (by first | rfl | exact congrArg _ (mvx_11 (by omega) (by omega)).symm | exact congrArg _ (mvx_12 (by omega) (by omega)).symm | exact congrArg _ (mvx_2 (by omega)).symm | exact congrArg _ (mvy_1 (by omega)).symm | exact congrArg _ (mvy_21 (by omega) (by omega)).symm | exact congrArg _ (mvy_22 (by omega) (by omega)).symm), rfl, trivial⟩) (Or.inl <| ⟨(by omega), (by omega), rfl⟩)
    ·
     refine sreg hmix [([(1, .cells [.i 0, .nils, .nils] 25), (0, .cells (mm W xs ys) 25)], 2), ([(1, .cells (mm W xs (spl ys (c % 4294967296) ((xs.take ((((a % 4294967296) + n) : Int).toNat)).drop (((a % 4294967296) : Int).toNat)))) 25), (0, .cells (mm W xs ys) 25)], 2)] [14] [(1, [0]), (6, [4, 5]), (7, [4, 5, 6]), (11, [9, 10]), (12, [4, 5, 6, 7, 8, 9, 10, 11]), (13, [0, 1, 2, 3, 4, 5, 6, 7, 8, 9, 10, 11, 12]), (14, [0, 1, 2, 3, 4, 5, 6, 7, 8, 9, 10, 11, 12, 13]), (15, [0, 1, 2, 3, 4, 5, 6, 7, 8, 9, 10, 11, 12, 13, 14])] (by kernel_rfl) (by kernel_rfl) (by kernel_rfl) (by kernel_rfl) (by kernel_rfl) ?_
     refine sr [] 6 0 [(49, .loc 0 1), (48, .i (a / 4294967296 - 1)), (47, .i (c % 4294967296)), (46, .i (c / 4294967296 - 1)), (45, .agg (mm W xs ys)), (44, .agg (mm W xs ys)), (42, .f), (14, .i (c % 4294967296)), (13, .i (c / 4294967296 - 1)), (11, .i (a % 4294967296)), (10, .i (a / 4294967296 - 1)), (9, .i 0), (8, .p 1), (4, .p 0), (3, .i n)] [True, True, True, True, True, True] ⟨trivial, trivial, trivial, trivial, trivial, trivial, trivial⟩ ?_
     refine sseti 48 (k := .i64) (x := (a / 4294967296 - 1)) (y := 0) (by kernel_rfl) (by omega) ?_
     refine sr [(11, .i ((a % 4294967296) + n))] 7 6 [(56, .sl false 1 ((((m64 xs)).take (((a % 4294967296) + n) : Int).toNat).drop ((a % 4294967296) : Int).toNat)), (55, .i ((a % 4294967296) + n)), (54, .i n), (53, .i (a % 4294967296)), (52, .i (a % 4294967296)), (51, .sl false 1 (m64 xs)), (50, .loc 0 1), (48, .i 0), (49, .loc 0 1), (48, .i (a / 4294967296 - 1)), (47, .i (c % 4294967296)), (46, .i (c / 4294967296 - 1)), (45, .agg (mm W xs ys)), (44, .agg (mm W xs ys)), (42, .f), (14, .i (c % 4294967296)), (13, .i (c / 4294967296 - 1)), (11, .i (a % 4294967296)), (10, .i (a / 4294967296 - 1)), (9, .i 0), (8, .p 1), (4, .p 0), (3, .i n)] [(0 : Int) ≤ 0 ∧ 0 < ((2 : Nat) : Int), True, True, True, True, IntKind.i64.wrap ((a % 4294967296) + n) = ((a % 4294967296) + n), (0 : Int) ≤ (a % 4294967296) ∧ (a % 4294967296) ≤ ((a % 4294967296) + n) ∧ ((a % 4294967296) + n) ≤ ((((m64 xs)).length : Nat) : Int)] ⟨(by constructor <;> omega), trivial, trivial, trivial, trivial, i64_eq (by omega) (by omega), ⟨by omega, by omega, by first | omega | (simp only [len_st]; omega) | (simp; done) | (simp; omega) | (simp [len_st, len_stx, len_sty, len_zx, len_zy]; omega)⟩, trivial⟩ ?_
     refine ssets 56 (x := false) (z := 1) (L := ((((m64 xs)).take (((a % 4294967296) + n) : Int).toNat).drop ((a % 4294967296) : Int).toNat)) (L' := (m64 ((xs.take ((((a % 4294967296) + n) : Int).toNat)).drop (((a % 4294967296) : Int).toNat)))) (by kernel_rfl) cut_map ?_
     refine sc (wwithL_2 W xs ys (c / 4294967296 - 1) (c % 4294967296) ((xs.take ((((a % 4294967296) + n) : Int).toNat)).drop (((a % 4294967296) : Int).toNat)) ‹_› ‹_› ‹_› ‹_› ‹_› (by omega) (by omega) (by first | omega | assumption | rfl | (rw [len_zx]; assumption) | (rw [len_zy]; assumption) | exact U64s.zx (by assumption) _ _ | exact U64s.zy (by assumption) _ _ | exact U64s.rep _ | decide | (simp; done) | (simp; omega)) (by first | omega | assumption | rfl | (rw [len_zx]; assumption) | (rw [len_zy]; assumption) | exact U64s.zx (by assumption) _ _ | exact U64s.zy (by assumption) _ _ | exact U64s.rep _ | decide | (simp; done) | (simp; omega)) (by omega)) ?_
     refine sr [] 2 14 [(9, .i 0), (57, .agg (mm W xs (spl ys (c % 4294967296) ((xs.take ((((a % 4294967296) + n) : Int).toNat)).drop (((a % 4294967296) : Int).toNat))))), (56, .sl false 1 (m64 ((xs.take ((((a % 4294967296) + n) : Int).toNat)).drop (((a % 4294967296) : Int).toNat)))), (56, .sl false 1 ((((m64 xs)).take (((a % 4294967296) + n) : Int).toNat).drop ((a % 4294967296) : Int).toNat)), (55, .i ((a % 4294967296) + n)), (54, .i n), (53, .i (a % 4294967296)), (52, .i (a % 4294967296)), (51, .sl false 1 (m64 xs)), (50, .loc 0 1), (48, .i 0), (49, .loc 0 1), (48, .i (a / 4294967296 - 1)), (47, .i (c % 4294967296)), (46, .i (c / 4294967296 - 1)), (45, .agg (mm W xs ys)), (44, .agg (mm W xs ys)), (42, .f), (14, .i (c % 4294967296)), (13, .i (c / 4294967296 - 1)), (11, .i (a % 4294967296)), (10, .i (a / 4294967296 - 1)), (9, .i 0), (8, .p 1), (4, .p 0), (3, .i n)] [True, ([(1, .cells (mm W xs (spl ys (c % 4294967296) ((xs.take ((((a % 4294967296) + n) : Int).toNat)).drop (((a % 4294967296) : Int).toNat)))) 25), (0, .cells (mm W xs ys) 25)] : Mem) = [(1, .cells (mm W xs (spl ys (c % 4294967296) ((xs.take ((((a % 4294967296) + n) : Int).toNat)).drop (((a % 4294967296) : Int).toNat)))) 25), (0, .cells (mm W xs ys) 25)], (2 : Nat) = 2, True] ⟨trivial, rfl, rfl, trivial, trivial⟩ ?_
     refine sen ?_
     refine an ?_
     refine xw_ret ?_
     exact bk_ret (.tup [.agg (mm W xs (spl ys (c % 4294967296) ((xs.take ((((a % 4294967296) + n) : Int).toNat)).drop (((a % 4294967296) : Int).toNat)))), .i 0]) (.tup [.agg (mm W xs (spl ys (c % 4294967296) ((xs.take ((((a % 4294967296) + n) : Int).toNat)).drop (((a % 4294967296) : Int).toNat)))), .i 0]) (.tup [.agg (mm W (mvx xs ys a c n) (mvy xs ys a c n)), .i 0]) (by kernel_rfl) (by kernel_rfl) (wkd [(W : Int) = W, (false = true → false = true), (m64 xs) = (m64 (mvx xs ys a c n)), (false = true → false = true), (m64 (spl ys (c % 4294967296) ((xs.take ((((a % 4294967296) + n) : Int).toNat)).drop (((a % 4294967296) : Int).toNat)))) = (m64 (mvy xs ys a c n)), (0 : Int) = 0] (by kernel_rfl) ⟨rfl, id, (by first | rfl | exact congrArg _ (mvx_11 (by omega) (by omega)).symm | exact congrArg _ (mvx_12 (by omega) (by omega)).symm | exact congrArg _ (mvx_2 (by omega)).symm | exact congrArg _ (mvy_1 (by omega)).symm | exact congrArg _ (mvy_21 (by omega) (by omega)).symm | exact congrArg _ (mvy_22 (by omega) (by omega)).symm), id, (by first | rfl | exact congrArg _ (mvx_11 (by omega) (by omega)).symm | exact congrArg _ (mvx_12 (by omega) (by omega)).symm | exact congrArg _ (mvx_2 (by omega)).symm | exact congrArg _ (mvy_1 (by omega)).symm | exact congrArg _ (mvy_21 (by omega) (by omega)).symm | exact congrArg _ (mvy_22 (by omega) (by omega)).symm), rfl, trivial⟩) (Or.inl <| ⟨(by omega), (by omega), rfl⟩)
   ·
    by_cases h3 : (c / 4294967296 - 1) = 0
    ·
     refine sreg hmix [([(1, .cells [.i 0, .nils, .nils] 25), (0, .cells (mm W xs ys) 25)], 2), ([(1, .cells (mm W (spl xs (c % 4294967296) ((ys.take ((((a % 4294967296) + n) : Int).toNat)).drop (((a % 4294967296) : Int).toNat))) ys) 25), (0, .cells (mm W xs ys) 25)], 2)] [14] [(1, [0]), (6, [4, 5]), (7, [4, 5, 6]), (11, [9, 10]), (12, [4, 5, 6, 7, 8, 9, 10, 11]), (13, [0, 1, 2, 3, 4, 5, 6, 7, 8, 9, 10, 11, 12]), (14, [0, 1, 2, 3, 4, 5, 6, 7, 8, 9, 10, 11, 12, 13]), (15, [0, 1, 2, 3, 4, 5, 6, 7, 8, 9, 10, 11, 12, 13, 14])] (by kernel_rfl) (by kernel_rfl) (by kernel_rfl) (by kernel_rfl) (by kernel_rfl) ?_
     refine sr [] 6 0 [(49, .loc 0 1), (48, .i (a / 4294967296 - 1)), (47, .i (c % 4294967296)), (46, .i (c / 4294967296 - 1)), (45, .agg (mm W xs ys)), (44, .agg (mm W xs ys)), (42, .f), (14, .i (c % 4294967296)), (13, .i (c / 4294967296 - 1)), (11, .i (a % 4294967296)), (10, .i (a / 4294967296 - 1)), (9, .i 0), (8, .p 1), (4, .p 0), (3, .i n)] [True, True, True, True, True, True] ⟨trivial, trivial, trivial, trivial, trivial, trivial, trivial⟩ ?_
     refine sseti 48 (k := .i64) (x := (a / 4294967296 - 1)) (y := 1) (by kernel_rfl) (by omega) ?_
     refine sr [(11, .i ((a % 4294967296) + n))] 7 6 [(56, .sl false 1 ((((m64 ys)).take (((a % 4294967296) + n) : Int).toNat).drop ((a % 4294967296) : Int).toNat)), (55, .i ((a % 4294967296) + n)), (54, .i n), (53, .i (a % 4294967296)), (52, .i (a % 4294967296)), (51, .sl false 1 (m64 ys)), (50, .loc 0 2), (48, .i 1), (49, .loc 0 1), (48, .i (a / 4294967296 - 1)), (47, .i (c % 4294967296)), (46, .i (c / 4294967296 - 1)), (45, .agg (mm W xs ys)), (44, .agg (mm W xs ys)), (42, .f), (14, .i (c % 4294967296)), (13, .i (c / 4294967296 - 1)), (11, .i (a % 4294967296)), (10, .i (a / 4294967296 - 1)), (9, .i 0), (8, .p 1), (4, .p 0), (3, .i n)] [(0 : Int) ≤ 1 ∧ 1 < ((2 : Nat) : Int), True, True, True, True, IntKind.i64.wrap ((a % 4294967296) + n) = ((a % 4294967296) + n), (0 : Int) ≤ (a % 4294967296) ∧ (a % 4294967296) ≤ ((a % 4294967296) + n) ∧ ((a % 4294967296) + n) ≤ ((((m64 ys)).length : Nat) : Int)] ⟨(by constructor <;> omega), trivial, trivial, trivial, trivial, i64_eq (by omega) (by omega), ⟨by omega, by omega, by first | omega | (simp only [len_st]; omega) | (simp; done) | (simp; omega) | (simp [len_st, len_stx, len_sty, len_zx, len_zy]; omega)⟩, trivial⟩ ?_
     refine ssets 56 (x := false) (z := 1) (L := ((((m64 ys)).take (((a % 4294967296) + n) : Int).toNat).drop ((a % 4294967296) : Int).toNat)) (L' := (m64 ((ys.take ((((a % 4294967296) + n) : Int).toNat)).drop (((a % 4294967296) : Int).toNat)))) (by kernel_rfl) cut_map ?_
     refine sc (wwithL_1 W xs ys (c / 4294967296 - 1) (c % 4294967296) ((ys.take ((((a % 4294967296) + n) : Int).toNat)).drop (((a % 4294967296) : Int).toNat)) ‹_› ‹_› ‹_› ‹_› ‹_› (by omega) (by omega) (by first | omega | assumption | rfl | (rw [len_zx]; assumption) | (rw [len_zy]; assumption) | exact U64s.zx (by assumption) _ _ | exact U64s.zy (by assumption) _ _ | exact U64s.rep _ | decide | (simp; done) | (simp; omega)) (by first | omega | assumption | rfl | (rw [len_zx]; assumption) | (rw [len_zy]; assumption) | exact U64s.zx (by assumption) _ _ | exact U64s.zy (by assumption) _ _ | exact U64s.rep _ | decide | (simp; done) | (simp; omega)) ‹_›) ?_
     refine sr [] 2 14 [(9, .i 0), (57, .agg (mm W (spl xs (c % 4294967296) ((ys.take ((((a % 4294967296) + n) : Int).toNat)).drop (((a % 4294967296) : Int).toNat))) ys)), (56, .sl false 1 (m64 ((ys.take ((((a % 4294967296) + n) : Int).toNat)).drop (((a % 4294967296) : Int).toNat)))), (56, .sl false 1 ((((m64 ys)).take (((a % 4294967296) + n) : Int).toNat).drop ((a % 4294967296) : Int).toNat)), (55, .i ((a % 4294967296) + n)), (54, .i n), (53, .i (a % 4294967296)), (52, .i (a % 4294967296)), (51, .sl false 1 (m64 ys)), (50, .loc 0 2), (48, .i 1), (49, .loc 0 1), (48, .i (a / 4294967296 - 1)), (47, .i (c % 4294967296)), (46, .i (c / 4294967296 - 1)), (45, .agg (mm W xs ys)), (44, .agg (mm W xs ys)), (42, .f), (14, .i (c % 4294967296)), (13, .i (c / 4294967296 - 1)), (11, .i (a % 4294967296)), (10, .i (a / 4294967296 - 1)), (9, .i 0), (8, .p 1), (4, .p 0), (3, .i n)] [True, ([(1, .cells (mm W (spl xs (c % 4294967296) ((ys.take ((((a % 4294967296) + n) : Int).toNat)).drop (((a % 4294967296) : Int).toNat))) ys) 25), (0, .cells (mm W xs ys) 25)] : Mem) = [(1, .cells (mm W (spl xs (c % 4294967296) ((ys.take ((((a % 4294967296) + n) : Int).toNat)).drop (((a % 4294967296) : Int).toNat))) ys) 25), (0, .cells (mm W xs ys) 25)], (2 : Nat) = 2, True] ⟨trivial, rfl, rfl, trivial, trivial⟩ ?_
     refine sen ?_
     refine an ?_
     refine xw_ret ?_
     exact bk_ret (.tup [.agg (mm W (spl xs (c % 4294967296) ((ys.take ((((a % 4294967296) + n) : Int).toNat)).drop (((a % 4294967296) : Int).toNat))) ys), .i 0]) (.tup [.agg (mm W (spl xs (c % 4294967296) ((ys.take ((((a % 4294967296) + n) : Int).toNat)).drop (((a % 4294967296) : Int).toNat))) ys), .i 0]) (.tup [.agg (mm W (mvx xs ys a c n) (mvy xs ys a c n)), .i 0]) (by kernel_rfl) (by kernel_rfl) (wkd [(W : Int) = W, (false = true → false = true), (m64 (spl xs (c % 4294967296) ((ys.take ((((a % 4294967296) + n) : Int).toNat)).drop (((a % 4294967296) : Int).toNat)))) = (m64 (mvx xs ys a c n)), (false = true → false = true), (m64 ys) = (m64 (mvy xs ys a c n)), (0 : Int) = 0] (by kernel_rfl) ⟨rfl, id, (by first | rfl | exact congrArg _ (mvx_11 (by omega) (by omega)).symm | exact congrArg _ (mvx_12 (by omega) (by omega)).symm | exact congrArg _ (mvx_2 (by omega)).symm | exact congrArg _ (mvy_1 (by omega)).symm | exact congrArg _ (mvy_21 (by omega) (by omega)).symm | exact congrArg _ (mvy_22 (by omega) (by omega)).symm), id, (by first | rfl | exact congrArg _ (mvx_11 (by omega) (by omega)).symm | exact congrArg _ (mvx_12 (by omega) (by omega)).symm | exact congrArg _ (mvx_2 (by omega)).symm | exact congrArg _ (mvy_1 (by omega)).symm | exact congrArg _ (mvy_21 (by omega) (by omega)).symm | exact congrArg _ (mvy_22 (by omega) (by omega)).symm), rfl, trivial⟩) (Or.inl <| ⟨(by omega), (by omega), rfl⟩)
    ·
     refine sreg hmix [([(1, .cells [.i 0, .nils, .nils] 25), (0, .cells (mm W xs ys) 25)], 2), ([(1, .cells (mm W xs (spl ys (c % 4294967296) ((ys.take ((((a % 4294967296) + n) : Int).toNat)).drop (((a % 4294967296) : Int).toNat)))) 25), (0, .cells (mm W xs ys) 25)], 2)] [14] [(1, [0]), (6, [4, 5]), (7, [4, 5, 6]), (11, [9, 10]), (12, [4, 5, 6, 7, 8, 9, 10, 11]), (13, [0, 1, 2, 3, 4, 5, 6, 7, 8, 9, 10, 11, 12]), (14, [0, 1, 2, 3, 4, 5, 6, 7, 8, 9, 10, 11, 12, 13]), (15, [0, 1, 2, 3, 4, 5, 6, 7, 8, 9, 10, 11, 12, 13, 14])] (by kernel_rfl) (by kernel_rfl) (by kernel_rfl) (by kernel_rfl) (by kernel_rfl) ?_
     refine sr [] 6 0 [(49, .loc 0 1), (48, .i (a / 4294967296 - 1)), (47, .i (c % 4294967296)), (46, .i (c / 4294967296 - 1)), (45, .agg (mm W xs ys)), (44, .agg (mm W xs ys)), (42, .f), (14, .i (c % 4294967296)), (13, .i (c / 4294967296 - 1)), (11, .i (a % 4294967296)), (10, .i (a / 4294967296 - 1)), (9, .i 0), (8, .p 1), (4, .p 0), (3, .i n)] [True, True, True, True, True, True] ⟨trivial, trivial, trivial, trivial, trivial, trivial, trivial⟩ ?_
     refine sseti 48 (k := .i64) (x := (a / 4294967296 - 1)) (y := 1) (by kernel_rfl) (by omega) ?_
     refine sr [(11, .i ((a % 4294967296) + n))] 7 6 [(56, .sl false 1 ((((m64 ys)).take (((a % 4294967296) + n) : Int).toNat).drop ((a % 4294967296) : Int).toNat)), (55, .i ((a % 4294967296) + n)), (54, .i n), (53, .i (a % 4294967296)), (52, .i (a % 4294967296)), (51, .sl false 1 (m64 ys)), (50, .loc 0 2), (48, .i 1), (49, .loc 0 1), (48, .i (a / 4294967296 - 1)), (47, .i (c % 4294967296)), (46, .i (c / 4294967296 - 1)), (45, .agg (mm W xs ys)), (44, .agg (mm W xs ys)), (42, .f), (14, .i (c % 4294967296)), (13, .i (c / 4294967296 - 1)), (11, .i (a % 4294967296)), (10, .i (a / 4294967296 - 1)), (9, .i 0), (8, .p 1), (4, .p 0), (3, .i n)] [(0 : Int) ≤ 1 ∧ 1 < ((2 : Nat) : Int), True, True, True, True, IntKind.i64.wrap ((a % 4294967296) + n) = ((a % 4294967296) + n), (0 : Int) ≤ (a % 4294967296) ∧ (a % 4294967296) ≤ ((a % 4294967296) + n) ∧ ((a % 4294967296) + n) ≤ ((((m64 ys)).length : Nat) : Int)] ⟨(by constructor <;> omega), trivial, trivial, trivial, trivial, i64_eq (by omega) (by omega), ⟨by omega, by omega, by first | omega | (simp only [len_st]; omega) | (simp; done) | (simp; omega) | (simp [len_st, len_stx, len_sty, len_zx, len_zy]; omega)⟩, trivial⟩ ?_
     refine ssets 56 (x := false) (z := 1) (L := ((((m64 ys)).take (((a % 4294967296) + n) : Int).toNat).drop ((a % 4294967296) : Int).toNat)) (L' := (m64 ((ys.take ((((a % 4294967296) + n) : Int).toNat)).drop (((a % 4294967296) : Int).toNat)))) (by kernel_rfl) cut_map ?_
     refine sc (wwithL_2 W xs ys (c / 4294967296 - 1) (c % 4294967296) ((ys.take ((((a % 4294967296) + n) : Int).toNat)).drop (((a % 4294967296) : Int).toNat)) ‹_› ‹_› ‹_› ‹_› ‹_› (by omega) (by omega) (by first | omega | assumption | rfl | (rw [len_zx]; assumption) | (rw [len_zy]; assumption) | exact U64s.zx (by assumption) _ _ | exact U64s.zy (by assumption) _ _ | exact U64s.rep _ | decide | (simp; done) | (simp; omega)) (by first | omega | assumption | rfl | (rw [len_zx]; assumption) | (rw [len_zy]; assumption) | exact U64s.zx (by assumption) _ _ | exact U64s.zy (by assumption) _ _ | exact U64s.rep _ | decide | (simp; done) | (simp; omega)) (by omega)) ?_
     refine sr [] 2 14 [(9, .i 0), (57, .agg (mm W xs (spl ys (c % 4294967296) ((ys.take ((((a % 4294967296) + n) : Int).toNat)).drop (((a % 4294967296) : Int).toNat))))), (56, .sl false 1 (m64 ((ys.take ((((a % 4294967296) + n) : Int).toNat)).drop (((a % 4294967296) : Int).toNat)))), (56, .sl false 1 ((((m64 ys)).take (((a % 4294967296) + n) : Int).toNat).drop ((a % 4294967296) : Int).toNat)), (55, .i ((a % 4294967296) + n)), (54, .i n), (53, .i (a % 4294967296)), (52, .i (a % 4294967296)), (51, .sl false 1 (m64 ys)), (50, .loc 0 2), (48, .i 1), (49, .loc 0 1), (48, .i (a / 4294967296 - 1)), (47, .i (c % 4294967296)), (46, .i (c / 4294967296 - 1)), (45, .agg (mm W xs ys)), (44, .agg (mm W xs ys)), (42, .f), (14, .i (c % 4294967296)), (13, .i (c / 4294967296 - 1)), (11, .i (a % 4294967296)), (10, .i (a / 4294967296 - 1)), (9, .i 0), (8, .p 1), (4, .p 0), (3, .i n)] [True, ([(1, .cells (mm W xs (spl ys (c % 4294967296) ((ys.take ((((a % 4294967296) + n) : Int).toNat)).drop (((a % 4294967296) : Int).toNat)))) 25), (0, .cells (mm W xs ys) 25)] : Mem) = [(1, .cells (mm W xs (spl ys (c % 4294967296) ((ys.take ((((a % 4294967296) + n) : Int).toNat)).drop (((a % 4294967296) : Int).toNat)))) 25), (0, .cells (mm W xs ys) 25)], (2 : Nat) = 2, True] ⟨trivial, rfl, rfl, trivial, trivial⟩ ?_
     refine sen ?_
     refine an ?_
     refine xw_ret ?_
     exact bk_ret (.tup [.agg (mm W xs (spl ys (c % 4294967296) ((ys.take ((((a % 4294967296) + n) : Int).toNat)).drop (((a % 4294967296) : Int).toNat)))), .i 0]) (.tup [.agg (mm W xs (spl ys (c % 4294967296) ((ys.take ((((a % 4294967296) + n) : Int).toNat)).drop (((a % 4294967296) : Int).toNat)))), .i 0]) (.tup [.agg (mm W (mvx xs ys a c n) (mvy xs ys a c n)), .i 0]) (by kernel_rfl) (by kernel_rfl) (wkd [(W : Int) = W, (false = true → false = true), (m64 xs) = (m64 (mvx xs ys a c n)), (false = true → false = true), (m64 (spl ys (c % 4294967296) ((ys.take ((((a % 4294967296) + n) : Int).toNat)).drop (((a % 4294967296) : Int).toNat)))) = (m64 (mvy xs ys a c n)), (0 : Int) = 0] (by kernel_rfl) ⟨rfl, id, (by first | rfl | exact congrArg _ (mvx_11 (by omega) (by omega)).symm | exact congrArg _ (mvx_12 (by omega) (by omega)).symm | exact congrArg _ (mvx_2 (by omega)).symm | exact congrArg _ (mvy_1 (by omega)).symm | exact congrArg _ (mvy_21 (by omega) (by omega)).symm | exact congrArg _ (mvy_22 (by omega) (by omega)).symm), id, (by first | rfl | exact congrArg _ (mvx_11 (by omega) (by omega)).symm | exact congrArg _ (mvx_12 (by omega) (by omega)).symm | exact congrArg _ (mvx_2 (by omega)).symm | exact congrArg _ (mvy_1 (by omega)).symm | exact congrArg _ (mvy_21 (by omega) (by omega)).symm | exact congrArg _ (mvy_22 (by omega) (by omega)).symm), rfl, trivial⟩) (Or.inl <| ⟨(by omega), (by omega), rfl⟩)
  ·
   refine pc (wthere_2 W xs ys c n ‹_› ‹_› ‹_› ‹_› ‹_› ‹_› (by omega) (by omega)) ?_
   refine rk [] 7 5 ⟨[(15, .f), (14, .i 0), (13, .i 0), (12, .t), (11, .i (a % 4294967296)), (10, .i (a / 4294967296 - 1)), (9, .i 0), (8, .p 1), (4, .p 0), (3, .i n)], [(1, .cells [.i 0, .nils, .nils] 25), (0, .cells (mm W xs ys) 25)], 2⟩ [] trivial ?_
   refine en ?_
   refine an ?_
   refine xw_seq ?_
   refine rg [] 6 ⟨[(42, .t), (14, .i 0), (13, .i 0), (11, .i (a % 4294967296)), (10, .i (a / 4294967296 - 1)), (9, .i 0), (8, .p 1), (4, .p 0), (3, .i n)], [(1, .cells [.i 0, .nils, .nils] 25), (0, .cells (mm W xs ys) 25)], 2⟩ [True] ⟨trivial, trivial⟩ ?_
   refine ct ?_
   refine rg [] 3 ⟨[(9, .i 2), (14, .i 0), (13, .i 0), (11, .i (a % 4294967296)), (10, .i (a / 4294967296 - 1)), (8, .p 1), (4, .p 0), (3, .i n)], [(1, .cells (mm W xs ys) 25), (0, .cells (mm W xs ys) 25)], 2⟩ [True, True] ⟨trivial, trivial, trivial⟩ ?_
   refine xw_ret ?_
   refine an_ret ?_
   exact bs (.tup [.agg (mm W xs ys), .i 2]) (Or.inr <| ⟨(by omega), rfl⟩)
 ·
  refine pc (wthere_2 W xs ys a n ‹_› ‹_› ‹_› ‹_› ‹_› ‹_› (by omega) (by omega)) ?_
  refine rk [] 7 5 ⟨[(12, .f), (11, .i 0), (10, .i 0), (9, .i 0), (8, .p 1), (4, .p 0), (2, .u c), (3, .i n)], [(1, .cells [.i 0, .nils, .nils] 25), (0, .cells (mm W xs ys) 25)], 2⟩ [] trivial ?_
  refine en ?_
  refine an ?_
  refine xw_seq ?_
  refine reg ?_
  refine rk [] 4 0 ⟨[(32, .i n), (31, .u c), (30, .agg (mm W xs ys)), (12, .f), (11, .i 0), (10, .i 0), (9, .i 0), (8, .p 1), (4, .p 0), (3, .i n)], [(1, .cells [.i 0, .nils, .nils] 25), (0, .cells (mm W xs ys) 25)], 2⟩ [True] ⟨trivial, trivial⟩ ?_
  by_cases h1 : 1 ≤ c / 4294967296 ∧ c / 4294967296 ≤ 2 ∧ c % 4294967296 < W ∧ 0 ≤ n ∧ c % 4294967296 + n ≤ W
  ·
   refine pc (wthere_1 W xs ys c n ‹_› ‹_› ‹_› ‹_› ‹_› ‹_› (by omega) (by omega)) ?_
   refine rk [] 7 5 ⟨[(15, .t), (14, .i (c % 4294967296)), (13, .i (c / 4294967296 - 1)), (12, .f), (11, .i 0), (10, .i 0), (9, .i 0), (8, .p 1), (4, .p 0), (3, .i n)], [(1, .cells [.i 0, .nils, .nils] 25), (0, .cells (mm W xs ys) 25)], 2⟩ [] trivial ?_
   refine en ?_
   refine an ?_
   refine xw_seq ?_
   refine rg [] 6 ⟨[(42, .t), (14, .i (c % 4294967296)), (13, .i (c / 4294967296 - 1)), (11, .i 0), (10, .i 0), (9, .i 0), (8, .p 1), (4, .p 0), (3, .i n)], [(1, .cells [.i 0, .nils, .nils] 25), (0, .cells (mm W xs ys) 25)], 2⟩ [True] ⟨trivial, trivial⟩ ?_
   refine ct ?_
   refine rg [] 3 ⟨[(9, .i 2), (14, .i (c % 4294967296)), (13, .i (c / 4294967296 - 1)), (11, .i 0), (10, .i 0), (8, .p 1), (4, .p 0), (3, .i n)], [(1, .cells (mm W xs ys) 25), (0, .cells (mm W xs ys) 25)], 2⟩ [True, True] ⟨trivial, trivial, trivial⟩ ?_
   refine xw_ret ?_
   refine an_ret ?_
   exact bs (.tup [.agg (mm W xs ys), .i 2]) (Or.inr <| ⟨(by omega), rfl⟩)
  ·
   refine pc (wthere_2 W xs ys c n ‹_› ‹_› ‹_› ‹_› ‹_› ‹_› (by omega) (by omega)) ?_
   refine rk [] 7 5 ⟨[(15, .f), (14, .i 0), (13, .i 0), (12, .f), (11, .i 0), (10, .i 0), (9, .i 0), (8, .p 1), (4, .p 0), (3, .i n)], [(1, .cells [.i 0, .nils, .nils] 25), (0, .cells (mm W xs ys) 25)], 2⟩ [] trivial ?_
   refine en ?_
   refine an ?_
   refine xw_seq ?_
   refine rg [] 6 ⟨[(42, .t), (14, .i 0), (13, .i 0), (11, .i 0), (10, .i 0), (9, .i 0), (8, .p 1), (4, .p 0), (3, .i n)], [(1, .cells [.i 0, .nils, .nils] 25), (0, .cells (mm W xs ys) 25)], 2⟩ [True] ⟨trivial, trivial⟩ ?_
   refine ct ?_
   refine rg [] 3 ⟨[(9, .i 2), (14, .i 0), (13, .i 0), (11, .i 0), (10, .i 0), (8, .p 1), (4, .p 0), (3, .i n)], [(1, .cells (mm W xs ys) 25), (0, .cells (mm W xs ys) 25)], 2⟩ [True, True] ⟨trivial, trivial, trivial⟩ ?_
   refine xw_ret ?_
   refine an_ret ?_
   exact bs (.tup [.agg (mm W xs ys), .i 2]) (Or.inr <| ⟨(by omega), rfl⟩)

theorem amove_1 (W : Int) (xs : List Int) (ys : List Int) (a : Int) (c : Int) (n : Int) (hp0 : 16 ≤ W ∧ W ≤ 4096) (hp1 : (xs.length : Int) = W) (hp2 : (ys.length : Int) = W) (hp3 : U64s xs) (hp4 : U64s ys) (hp5 : 0 ≤ a ∧ a ≤ 18446744073709551615) (hp6 : 0 ≤ c ∧ c ≤ 18446744073709551615) (hp7 : 1 ≤ n ∧ n ≤ 4096) (hp8 : 1 ≤ a / 4294967296 ∧ a / 4294967296 ≤ 2 ∧ a % 4294967296 + n ≤ W) (hp9 : 1 ≤ c / 4294967296 ∧ c / 4294967296 ≤ 2 ∧ c % 4294967296 + n ≤ W) : Pub Try.prog 39 [.agg (mm W xs ys), .int .u64 a, .int .u64 c, .int .i64 n] (fun rv => rv = .tup [.agg (mm W (mvx xs ys a c n) (mvy xs ys a c n)), .int .i64 0]) := by
  refine (amove W xs ys a c n hp0 hp1 hp2 hp3 hp4 hp5 hp6 hp7).mono ?_
  rintro _ (⟨g0, g1, rfl⟩ | ⟨g0, rfl⟩)
  · rfl
  · exfalso; first | omega | grind

theorem amove_2 (W : Int) (xs : List Int) (ys : List Int) (a : Int) (c : Int) (n : Int) (hp0 : 16 ≤ W ∧ W ≤ 4096) (hp1 : (xs.length : Int) = W) (hp2 : (ys.length : Int) = W) (hp3 : U64s xs) (hp4 : U64s ys) (hp5 : 0 ≤ a ∧ a ≤ 18446744073709551615) (hp6 : 0 ≤ c ∧ c ≤ 18446744073709551615) (hp7 : 1 ≤ n ∧ n ≤ 4096) (hp8 : ¬ ((1 ≤ a / 4294967296 ∧ a / 4294967296 ≤ 2 ∧ a % 4294967296 + n ≤ W) ∧ (1 ≤ c / 4294967296 ∧ c / 4294967296 ≤ 2 ∧ c % 4294967296 + n ≤ W))) : Pub Try.prog 39 [.agg (mm W xs ys), .int .u64 a, .int .u64 c, .int .i64 n] (fun rv => rv = .tup [.agg (mm W xs ys), .int .i64 2]) := by
  refine (amove W xs ys a c n hp0 hp1 hp2 hp3 hp4 hp5 hp6 hp7).mono ?_
  rintro _ (⟨g0, g1, rfl⟩ | ⟨g0, rfl⟩)
  · exfalso; first | omega | grind
  · rfl

theorem tover (W : Int) (xs : List Int) (ys : List Int) (s : Int) (b : Int) (l : Int) (p : Int) (q : Int) (a : Int) (hp0 : 16 ≤ W ∧ W ≤ 4096) (hp1 : (xs.length : Int) = W) (hp2 : (ys.length : Int) = W) (hp3 : U64s xs) (hp4 : U64s ys) (hp5 : (s = 0 ∨ s = 1) ∧ 0 ≤ b ∧ b ≤ l ∧ l ≤ 4096) (hp6 : l = W) (hp7 : 0 ≤ p ∧ p ≤ q ∧ q ≤ b) (hp8 : 0 ≤ a ∧ a ≤ 18446744073709551615) : Pub Try.prog 36 [.agg (mr W xs ys [.int .i64 s, .int .i64 b, .int .i64 l, .int .i64 p, .int .i64 q]), .int .u64 a] (fun rv => ((1 ≤ a / 4294967296 ∧ a / 4294967296 ≤ 2 ∧ a / 4294967296 - 1 = s) ∧ rv = .bool true) ∨ ((¬ (1 ≤ a / 4294967296 ∧ a / 4294967296 ≤ 2 ∧ a / 4294967296 - 1 = s)) ∧ rv = .bool false)) := by
 refine pub_of TT_ok Try.func36 rfl (by decide) (Nat.le_of_ble_eq_true (by kernel_rfl)) (by kernel_rfl) ?_
 refine rg [] 2 ⟨[(4, .f), (2, .p 0), (1, .u a)], [(0, .cells (mr W xs ys [.i s, .i b, .i l, .i p, .i q]) 31)], 1⟩ [] trivial ?_
 refine xw_seq ?_
 refine reg ?_
 refine rk [] 1 0 ⟨[(9, .u a), (4, .f), (2, .p 0)], [(0, .cells (mr W xs ys [.i s, .i b, .i l, .i p, .i q]) 31)], 1⟩ [] trivial ?_
 by_cases h0 : 1 ≤ a / 4294967296 ∧ a / 4294967296 ≤ 2
 ·
  refine pc (pwhere_1 a ‹_› (by omega)) ?_
  refine rk [] 7 2 ⟨[(7, .t), (5, .i (a / 4294967296 - 1)), (4, .f), (2, .p 0)], [(0, .cells (mr W xs ys [.i s, .i b, .i l, .i p, .i q]) 31)], 1⟩ [] trivial ?_
  refine en ?_
  refine an ?_
  refine rg [(6, .bool ((a / 4294967296 - 1) == s))] 9 ⟨[(4, .bool ((a / 4294967296 - 1) == s))], [], 1⟩ [True, ((a / 4294967296 - 1) == s) = ((a / 4294967296 - 1) == s), True] ⟨trivial, rfl, trivial, trivial⟩ ?_
  refine xw_ret ?_
  by_cases h1 : (a / 4294967296 - 1) = s
  ·
   exact bk_ret (.bool ((a / 4294967296 - 1) == s)) (.bool ((a / 4294967296 - 1) == s)) (.t) (by kernel_rfl) (by kernel_rfl) (wkd [((a / 4294967296 - 1) == s) = true] (by kernel_rfl) ⟨(by first | exact decide_eq_true (by omega) | exact decide_eq_false (by omega) | (simp; done) | (simp; omega) | simp_all | grind), trivial⟩) (Or.inl <| ⟨(by omega), rfl⟩)
  ·
   exact bk_ret (.bool ((a / 4294967296 - 1) == s)) (.bool ((a / 4294967296 - 1) == s)) (.f) (by kernel_rfl) (by kernel_rfl) (wkd [((a / 4294967296 - 1) == s) = false] (by kernel_rfl) ⟨(by first | exact decide_eq_true (by omega) | exact decide_eq_false (by omega) | (simp; done) | (simp; omega) | simp_all | grind), trivial⟩) (Or.inr <| ⟨(by omega), rfl⟩)
 ·
  refine pc (pwhere_2 a ‹_› (by omega)) ?_
  refine rk [] 7 2 ⟨[(7, .f), (5, .i 0), (4, .f), (2, .p 0)], [(0, .cells (mr W xs ys [.i s, .i b, .i l, .i p, .i q]) 31)], 1⟩ [] trivial ?_
  refine en ?_
  refine an ?_
  refine rg [] 9 ⟨[(4, .f)], [], 1⟩ [True] ⟨trivial, trivial⟩ ?_
  refine xw_ret ?_
  exact bs (.f) (Or.inr <| ⟨(by omega), rfl⟩)

theorem tover_1 (W : Int) (xs : List Int) (ys : List Int) (s : Int) (b : Int) (l : Int) (p : Int) (q : Int) (a : Int) (hp0 : 16 ≤ W ∧ W ≤ 4096) (hp1 : (xs.length : Int) = W) (hp2 : (ys.length : Int) = W) (hp3 : U64s xs) (hp4 : U64s ys) (hp5 : (s = 0 ∨ s = 1) ∧ 0 ≤ b ∧ b ≤ l ∧ l ≤ 4096) (hp6 : l = W) (hp7 : 0 ≤ p ∧ p ≤ q ∧ q ≤ b) (hp8 : 0 ≤ a ∧ a ≤ 18446744073709551615) (hp9 : 1 ≤ a / 4294967296 ∧ a / 4294967296 ≤ 2 ∧ a / 4294967296 - 1 = s) : Pub Try.prog 36 [.agg (mr W xs ys [.int .i64 s, .int .i64 b, .int .i64 l, .int .i64 p, .int .i64 q]), .int .u64 a] (fun rv => rv = .bool true) := by
  refine (tover W xs ys s b l p q a hp0 hp1 hp2 hp3 hp4 hp5 hp6 hp7 hp8).mono ?_
  rintro _ (⟨g0, rfl⟩ | ⟨g0, rfl⟩)
  · rfl
  · exfalso; first | omega | grind

theorem tover_2 (W : Int) (xs : List Int) (ys : List Int) (s : Int) (b : Int) (l : Int) (p : Int) (q : Int) (a : Int) (hp0 : 16 ≤ W ∧ W ≤ 4096) (hp1 : (xs.length : Int) = W) (hp2 : (ys.length : Int) = W) (hp3 : U64s xs) (hp4 : U64s ys) (hp5 : (s = 0 ∨ s = 1) ∧ 0 ≤ b ∧ b ≤ l ∧ l ≤ 4096) (hp6 : l = W) (hp7 : 0 ≤ p ∧ p ≤ q ∧ q ≤ b) (hp8 : 0 ≤ a ∧ a ≤ 18446744073709551615) (hp9 : ¬ (1 ≤ a / 4294967296 ∧ a / 4294967296 ≤ 2 ∧ a / 4294967296 - 1 = s)) : Pub Try.prog 36 [.agg (mr W xs ys [.int .i64 s, .int .i64 b, .int .i64 l, .int .i64 p, .int .i64 q]), .int .u64 a] (fun rv => rv = .bool false) := by
  refine (tover W xs ys s b l p q a hp0 hp1 hp2 hp3 hp4 hp5 hp6 hp7 hp8).mono ?_
  rintro _ (⟨g0, rfl⟩ | ⟨g0, rfl⟩)
  · exfalso; first | omega | grind
  · rfl

set_option maxHeartbeats 8000000 in
theorem tto (W : Int) (xs : List Int) (ys : List Int) (s : Int) (b : Int) (l : Int) (p : Int) (q : Int) (a : Int) (hp0 : 16 ≤ W ∧ W ≤ 4096) (hp1 : (xs.length : Int) = W) (hp2 : (ys.length : Int) = W) (hp3 : U64s xs) (hp4 : U64s ys) (hp5 : (s = 0 ∨ s = 1) ∧ 0 ≤ b ∧ b ≤ l ∧ l ≤ 4096) (hp6 : l = W) (hp7 : 0 ≤ p ∧ p ≤ q ∧ q ≤ b) (hp8 : 0 ≤ a ∧ a ≤ 18446744073709551615) : Pub Try.prog 16 [.agg (mr W xs ys [.int .i64 s, .int .i64 b, .int .i64 l, .int .i64 p, .int .i64 q]), .int .u64 a] (fun rv => ((a = 0) ∧ rv = .tup [.agg (mr W xs ys [.int .i64 s, .int .i64 b, .int .i64 l, .int .i64 p, .int .i64 q]), .int .u64 0, .int .i64 0]) ∨ ((a ≠ 0) ∧ (¬ ((oErr W xs ys a) = 0)) ∧ rv = .tup [.agg (mr W xs ys [.int .i64 s, .int .i64 b, .int .i64 l, .int .i64 p, .int .i64 q]), .int .u64 0, .int .i64 (oErr W xs ys a)]) ∨ ((a ≠ 0) ∧ ((oErr W xs ys a) = 0) ∧ ((ldw xs ys a / 72057594037927936) = 255) ∧ rv = .tup [.agg (mr W xs ys [.int .i64 s, .int .i64 b, .int .i64 l, .int .i64 p, .int .i64 q]), .int .u64 0, .int .i64 8]) ∨ ((a ≠ 0) ∧ ((oErr W xs ys a) = 0) ∧ ((ldw xs ys a / 72057594037927936) ≠ 255) ∧ (a / 4294967296 - 1 = s) ∧ rv = .tup [.agg (mr W xs ys [.int .i64 s, .int .i64 b, .int .i64 l, .int .i64 p, .int .i64 q]), .int .u64 a, .int .i64 0]) ∨ ((a ≠ 0) ∧ ((oErr W xs ys a) = 0) ∧ ((ldw xs ys a / 72057594037927936) ≠ 255) ∧ (¬ (a / 4294967296 - 1 = s)) ∧ ((ldw xs ys (a + 1)) ≠ 0) ∧ (¬ (1 ≤ (ldw xs ys (a + 1)) / 4294967296 ∧ (ldw xs ys (a + 1)) / 4294967296 ≤ 2 ∧ (ldw xs ys (a + 1)) / 4294967296 - 1 = s)) ∧ rv = .tup [.agg (mr W xs ys [.int .i64 s, .int .i64 b, .int .i64 l, .int .i64 p, .int .i64 q]), .int .u64 0, .int .i64 10]) ∨ ((a ≠ 0) ∧ ((oErr W xs ys a) = 0) ∧ ((ldw xs ys a / 72057594037927936) ≠ 255) ∧ (¬ (a / 4294967296 - 1 = s)) ∧ ((ldw xs ys (a + 1)) ≠ 0) ∧ (1 ≤ (ldw xs ys (a + 1)) / 4294967296 ∧ (ldw xs ys (a + 1)) / 4294967296 ≤ 2 ∧ (ldw xs ys (a + 1)) / 4294967296 - 1 = s) ∧ rv = .tup [.agg (mr W xs ys [.int .i64 s, .int .i64 b, .int .i64 l, .int .i64 p, .int .i64 q]), .int .u64 (ldw xs ys (a + 1)), .int .i64 0]) ∨ ((a ≠ 0) ∧ ((oErr W xs ys a) = 0) ∧ ((ldw xs ys a / 72057594037927936) ≠ 255) ∧ (¬ (a / 4294967296 - 1 = s)) ∧ ((ldw xs ys (a + 1)) = 0) ∧ (l - b < (((ldw xs ys a / 4294967296) % 16777216) + 2)) ∧ rv = .tup [.agg (mr W xs ys [.int .i64 s, .int .i64 b, .int .i64 l, .int .i64 p, .int .i64 q]), .int .u64 0, .int .i64 4]) ∨ ((a ≠ 0) ∧ ((oErr W xs ys a) = 0) ∧ ((ldw xs ys a / 72057594037927936) ≠ 255) ∧ (¬ (a / 4294967296 - 1 = s)) ∧ ((ldw xs ys (a + 1)) = 0) ∧ ((((ldw xs ys a / 4294967296) % 16777216) + 2) ≤ l - b) ∧ rv = .tup [.agg (mr W (tX xs ys a ((s + 1) * 4294967296 + b) (((ldw xs ys a / 4294967296) % 16777216) + 2)) (tY xs ys a ((s + 1) * 4294967296 + b) (((ldw xs ys a / 4294967296) % 16777216) + 2)) [.int .i64 s, .int .i64 (b + (((ldw xs ys a / 4294967296) % 16777216) + 2)), .int .i64 l, .int .i64 p, .int .i64 q]), .int .u64 ((s + 1) * 4294967296 + b), .int .i64 0])) := by
 refine pub_of TT_ok Try.func16 rfl (by decide) (Nat.le_of_ble_eq_true (by kernel_rfl)) (by kernel_rfl) ?_
 refine rg [] 5 ⟨[(6, .i 0), (5, .u 0), (4, .p 2), (3, .p 1), (2, .p 0)], [(2, .cells [.i 0, .nils, .nils, .i 0, .i 0, .i 0, .i 0, .i 0] 31), (1, .cells [.u a] 41), (0, .cells (mr W xs ys [.i s, .i b, .i l, .i p, .i q]) 31)], 3⟩ [] trivial ?_
 refine xw_scope_u 0 4 rfl ?_
 refine xw_seq ?_
 refine reg ?_
 refine rk [] 3 0 ⟨[(18, .u a), (17, .agg (mm W xs ys)), (6, .i 0), (5, .u 0), (4, .p 2), (3, .p 1), (2, .p 0)], [(2, .cells [.i 0, .nils, .nils, .i 0, .i 0, .i 0, .i 0, .i 0] 31), (1, .cells [.u a] 41), (0, .cells (mr W xs ys [.i s, .i b, .i l, .i p, .i q]) 31)], 3⟩ [True, True] ⟨trivial, trivial, trivial⟩ ?_
 by_cases h0 : ((oErr W xs ys a) = 0) ∧ ((ldw xs ys a / 72057594037927936) ≠ 255)
 ·
  refine pc (otwin_1 W xs ys a ‹_› ‹_› ‹_› ‹_› ‹_› ‹_› (by omega) (by omega)) ?_
  obtain ⟨h1, h2, h3⟩ := oErr_ok W xs ys a (by omega)
  have h4 : 0 ≤ (ldw xs ys (a + 1)) ∧ (ldw xs ys (a + 1)) ≤ 18446744073709551615 := ldw_ok xs ys (a + 1) ‹_› ‹_›
  have h5 : 1 ≤ (a + 1) / 4294967296 ∧ (a + 1) / 4294967296 ≤ 2 ∧ (a + 1) % 4294967296 < W := by omega
  refine rk [] 5 4 ⟨[(8, .i 0), (7, .u (ldw xs ys (a + 1))), (6, .i 0), (5, .u 0), (4, .p 2), (3, .p 1), (2, .p 0)], [(2, .cells [.i 0, .nils, .nils, .i 0, .i 0, .i 0, .i 0, .i 0] 31), (1, .cells [.u a] 41), (0, .cells (mr W xs ys [.i s, .i b, .i l, .i p, .i q]) 31)], 3⟩ [] trivial ?_
  refine en ?_
  refine an ?_
  refine xw_seq ?_
  refine xw_block ?_
  refine xw_seq ?_
  refine xw_block ?_
  refine xw_seq ?_
  refine xw_block ?_
  refine xw_seq ?_
  refine xw_block ?_
  refine xw_seq ?_
  refine xw_block ?_
  refine xw_seq ?_
  refine xw_block ?_
  refine xw_seq ?_
  refine xw_seq ?_
  refine rg [(1, .f)] 3 ⟨[(22, .f), (8, .i 0), (7, .u (ldw xs ys (a + 1))), (6, .i 0), (5, .u 0), (4, .p 2), (3, .p 1), (2, .p 0)], [(2, .cells [.i 0, .nils, .nils, .i 0, .i 0, .i 0, .i 0, .i 0] 31), (1, .cells [.u a] 41), (0, .cells (mr W xs ys [.i s, .i b, .i l, .i p, .i q]) 31)], 3⟩ [True, (a == 0) = false] ⟨trivial, beq_eq_false_iff_ne.2 (by omega), trivial⟩ ?_
  refine cf ?_
  refine xw_skip ?_
  refine an ?_
  refine xw_seq ?_
  refine rg [(1, .f)] 3 ⟨[(25, .f), (8, .i 0), (7, .u (ldw xs ys (a + 1))), (6, .i 0), (5, .u 0), (4, .p 2), (3, .p 1), (2, .p 0)], [(2, .cells [.i 0, .nils, .nils, .i 0, .i 0, .i 0, .i 0, .i 0] 31), (1, .cells [.u a] 41), (0, .cells (mr W xs ys [.i s, .i b, .i l, .i p, .i q]) 31)], 3⟩ [(0 != 0) = false] ⟨bne_eq_false_iff_eq.2 (by omega), trivial⟩ ?_
  refine cf ?_
  refine xw_skip ?_
  refine an ?_
  refine xw_seq ?_
  refine xw_seq ?_
  refine reg ?_
  refine rk [] 2 0 ⟨[(30, .u a), (29, .agg (mr W xs ys [.i s, .i b, .i l, .i p, .i q])), (8, .i 0), (7, .u (ldw xs ys (a + 1))), (6, .i 0), (5, .u 0), (4, .p 2), (3, .p 1), (2, .p 0)], [(2, .cells [.i 0, .nils, .nils, .i 0, .i 0, .i 0, .i 0, .i 0] 31), (1, .cells [.u a] 41), (0, .cells (mr W xs ys [.i s, .i b, .i l, .i p, .i q]) 31)], 3⟩ [True, True] ⟨trivial, trivial, trivial⟩ ?_
  by_cases h6 : 1 ≤ a / 4294967296 ∧ a / 4294967296 ≤ 2 ∧ a / 4294967296 - 1 = s
  ·
   refine pc (tover_1 W xs ys s b l p q a ‹_› ‹_› ‹_› ‹_› ‹_› ‹_› ‹_› ‹_› ‹_› (by omega)) ?_
   refine rk [] 12 3 ⟨[(28, .f), (8, .i 0), (7, .u (ldw xs ys (a + 1))), (6, .i 0), (5, .u 0), (4, .p 2), (3, .p 1), (2, .p 0)], [(2, .cells [.i 0, .nils, .nils, .i 0, .i 0, .i 0, .i 0, .i 0] 31), (1, .cells [.u a] 41), (0, .cells (mr W xs ys [.i s, .i b, .i l, .i p, .i q]) 31)], 3⟩ [True, True] ⟨trivial, trivial, trivial⟩ ?_
   refine en ?_
   refine an ?_
   refine cf ?_
   refine xw_skip ?_
   refine an ?_
   refine xw_seq ?_
   refine xw_seq ?_
   refine reg ?_
   refine rk [] 2 0 ⟨[(45, .u a), (44, .agg (mr W xs ys [.i s, .i b, .i l, .i p, .i q])), (8, .i 0), (7, .u (ldw xs ys (a + 1))), (6, .i 0), (5, .u 0), (4, .p 2), (3, .p 1), (2, .p 0)], [(2, .cells [.i 0, .nils, .nils, .i 0, .i 0, .i 0, .i 0, .i 0] 31), (1, .cells [.u a] 41), (0, .cells (mr W xs ys [.i s, .i b, .i l, .i p, .i q]) 31)], 3⟩ [True, True] ⟨trivial, trivial, trivial⟩ ?_
   refine pc (tover_1 W xs ys s b l p q a ‹_› ‹_› ‹_› ‹_› ‹_› ‹_› ‹_› ‹_› ‹_› (by omega)) ?_
   refine rk [] 1 3 ⟨[(43, .t), (8, .i 0), (7, .u (ldw xs ys (a + 1))), (6, .i 0), (5, .u 0), (4, .p 2), (3, .p 1), (2, .p 0)], [(2, .cells [.i 0, .nils, .nils, .i 0, .i 0, .i 0, .i 0, .i 0] 31), (1, .cells [.u a] 41), (0, .cells (mr W xs ys [.i s, .i b, .i l, .i p, .i q]) 31)], 3⟩ [] trivial ?_
   refine en ?_
   refine an ?_
   refine ct ?_
   refine xw_exit ?_
   refine an_exit ?_
   refine an_exit ?_
   refine ib_exit (by kernel_rfl) ?_
   refine an_exit ?_
   refine ib_exit (by kernel_rfl) ?_
   refine an_exit ?_
   refine ib_exit (by kernel_rfl) ?_
   refine an_exit ?_
   refine ib_same ?_
   refine an ?_
   refine re [] 2 ⟨[(7, .u a), (6, .i 0), (5, .u 0), (4, .p 2), (3, .p 1), (2, .p 0)], [(2, .cells [.i 0, .nils, .nils, .i 0, .i 0, .i 0, .i 0, .i 0] 31), (1, .cells [.u a] 41), (0, .cells (mr W xs ys [.i s, .i b, .i l, .i p, .i q]) 31)], 3⟩ [True] ⟨trivial, trivial⟩ ?_
   refine ib ?_
   refine an ?_
   refine xw_seq ?_
   refine rg [] 5 ⟨[(6, .i 0), (5, .u a), (4, .p 2), (3, .p 1), (2, .p 0)], [(2, .cells (mr W xs ys [.i s, .i b, .i l, .i p, .i q]) 31), (1, .cells [.u a] 41), (0, .cells (mr W xs ys [.i s, .i b, .i l, .i p, .i q]) 31)], 3⟩ [True, True] ⟨trivial, trivial, trivial⟩ ?_
   refine xw_ret ?_
   refine an_ret ?_
   refine ib_ret ?_
   refine an_ret ?_
   refine juu_ret ?_
   exact bs (.tup [.agg (mr W xs ys [.i s, .i b, .i l, .i p, .i q]), .u a, .i 0]) (Or.inr <| Or.inr <| Or.inr <| Or.inl <| ⟨(by omega), (by omega), (by omega), (by omega), rfl⟩)
  ·
   refine pc (tover_2 W xs ys s b l p q a ‹_› ‹_› ‹_› ‹_› ‹_› ‹_› ‹_› ‹_› ‹_› (by omega)) ?_
   refine rk [(6, .bool ((ldw xs ys (a + 1)) != 0))] 6 3 ⟨[(37, .bool ((ldw xs ys (a + 1)) != 0)), (8, .i 0), (7, .u (ldw xs ys (a + 1))), (6, .i 0), (5, .u 0), (4, .p 2), (3, .p 1), (2, .p 0)], [(2, .cells [.i 0, .nils, .nils, .i 0, .i 0, .i 0, .i 0, .i 0] 31), (1, .cells [.u a] 41), (0, .cells (mr W xs ys [.i s, .i b, .i l, .i p, .i q]) 31)], 3⟩ [((ldw xs ys (a + 1)) != 0) = ((ldw xs ys (a + 1)) != 0), True] ⟨rfl, trivial, trivial⟩ ?_
   refine splitr 37 (x := ((ldw xs ys (a + 1)) != 0)) (by kernel_rfl) (fun h7 => ?_) (fun h7 => ?_)
   ·
    replace h7 : (ldw xs ys (a + 1)) ≠ 0 := bne_iff_ne.1 h7
    refine rk [] 2 9 ⟨[(39, .u (ldw xs ys (a + 1))), (38, .agg (mr W xs ys [.i s, .i b, .i l, .i p, .i q])), (37, .t), (8, .i 0), (7, .u (ldw xs ys (a + 1))), (6, .i 0), (5, .u 0), (4, .p 2), (3, .p 1), (2, .p 0)], [(2, .cells [.i 0, .nils, .nils, .i 0, .i 0, .i 0, .i 0, .i 0] 31), (1, .cells [.u a] 41), (0, .cells (mr W xs ys [.i s, .i b, .i l, .i p, .i q]) 31)], 3⟩ [True] ⟨trivial, trivial⟩ ?_
    by_cases h8 : 1 ≤ (ldw xs ys (a + 1)) / 4294967296 ∧ (ldw xs ys (a + 1)) / 4294967296 ≤ 2 ∧ (ldw xs ys (a + 1)) / 4294967296 - 1 = s
    ·
     refine pc (tover_1 W xs ys s b l p q (ldw xs ys (a + 1)) ‹_› ‹_› ‹_› ‹_› ‹_› ‹_› ‹_› ‹_› ‹_› (by omega)) ?_
     refine rk [] 3 12 ⟨[(28, .f), (8, .i 0), (7, .u (ldw xs ys (a + 1))), (6, .i 0), (5, .u 0), (4, .p 2), (3, .p 1), (2, .p 0)], [(2, .cells [.i 0, .nils, .nils, .i 0, .i 0, .i 0, .i 0, .i 0] 31), (1, .cells [.u a] 41), (0, .cells (mr W xs ys [.i s, .i b, .i l, .i p, .i q]) 31)], 3⟩ [True] ⟨trivial, trivial⟩ ?_
     refine en ?_
     refine an ?_
     refine cf ?_
     refine xw_skip ?_
     refine an ?_
     refine xw_seq ?_
     refine xw_seq ?_
     refine reg ?_
     refine rk [] 2 0 ⟨[(45, .u a), (44, .agg (mr W xs ys [.i s, .i b, .i l, .i p, .i q])), (8, .i 0), (7, .u (ldw xs ys (a + 1))), (6, .i 0), (5, .u 0), (4, .p 2), (3, .p 1), (2, .p 0)], [(2, .cells [.i 0, .nils, .nils, .i 0, .i 0, .i 0, .i 0, .i 0] 31), (1, .cells [.u a] 41), (0, .cells (mr W xs ys [.i s, .i b, .i l, .i p, .i q]) 31)], 3⟩ [True, True] ⟨trivial, trivial, trivial⟩ ?_
     refine pc (tover_2 W xs ys s b l p q a ‹_› ‹_› ‹_› ‹_› ‹_› ‹_› ‹_› ‹_› ‹_› (by omega)) ?_
     refine rk [] 1 3 ⟨[(43, .f), (8, .i 0), (7, .u (ldw xs ys (a + 1))), (6, .i 0), (5, .u 0), (4, .p 2), (3, .p 1), (2, .p 0)], [(2, .cells [.i 0, .nils, .nils, .i 0, .i 0, .i 0, .i 0, .i 0] 31), (1, .cells [.u a] 41), (0, .cells (mr W xs ys [.i s, .i b, .i l, .i p, .i q]) 31)], 3⟩ [] trivial ?_
     refine en ?_
     refine an ?_
     refine cf ?_
     refine xw_skip ?_
     refine an ?_
     refine rg [(1, .t)] 3 ⟨[(47, .t), (8, .i 0), (7, .u (ldw xs ys (a + 1))), (6, .i 0), (5, .u 0), (4, .p 2), (3, .p 1), (2, .p 0)], [(2, .cells [.i 0, .nils, .nils, .i 0, .i 0, .i 0, .i 0, .i 0] 31), (1, .cells [.u a] 41), (0, .cells (mr W xs ys [.i s, .i b, .i l, .i p, .i q]) 31)], 3⟩ [((ldw xs ys (a + 1)) != 0) = true] ⟨bne_iff_ne.2 (by omega), trivial⟩ ?_
     refine ct ?_
     refine xw_exit ?_
     refine an_exit ?_
     refine ib_exit (by kernel_rfl) ?_
     refine an_exit ?_
     refine ib_exit (by kernel_rfl) ?_
     refine an_exit ?_
     refine ib_exit (by kernel_rfl) ?_
     refine an_exit ?_
     refine ib_exit (by kernel_rfl) ?_
     refine an_exit ?_
     refine ib_same ?_
     refine an ?_
     refine xw_seq ?_
     refine rg [] 5 ⟨[(6, .i 0), (5, .u (ldw xs ys (a + 1))), (4, .p 2), (3, .p 1), (2, .p 0)], [(2, .cells (mr W xs ys [.i s, .i b, .i l, .i p, .i q]) 31), (1, .cells [.u a] 41), (0, .cells (mr W xs ys [.i s, .i b, .i l, .i p, .i q]) 31)], 3⟩ [True, True] ⟨trivial, trivial, trivial⟩ ?_
     refine xw_ret ?_
     refine an_ret ?_
     refine ib_ret ?_
     refine an_ret ?_
     refine juu_ret ?_
     exact bs (.tup [.agg (mr W xs ys [.i s, .i b, .i l, .i p, .i q]), .u (ldw xs ys (a + 1)), .i 0]) (Or.inr <| Or.inr <| Or.inr <| Or.inr <| Or.inr <| Or.inl <| ⟨(by omega), (by omega), (by omega), (by omega), (by omega), (by omega), rfl⟩)
    ·
     refine pc (tover_2 W xs ys s b l p q (ldw xs ys (a + 1)) ‹_› ‹_› ‹_› ‹_› ‹_› ‹_› ‹_› ‹_› ‹_› (by omega)) ?_
     refine rk [] 3 12 ⟨[(28, .t), (8, .i 0), (7, .u (ldw xs ys (a + 1))), (6, .i 0), (5, .u 0), (4, .p 2), (3, .p 1), (2, .p 0)], [(2, .cells [.i 0, .nils, .nils, .i 0, .i 0, .i 0, .i 0, .i 0] 31), (1, .cells [.u a] 41), (0, .cells (mr W xs ys [.i s, .i b, .i l, .i p, .i q]) 31)], 3⟩ [True] ⟨trivial, trivial⟩ ?_
     refine en ?_
     refine an ?_
     refine ct ?_
     refine xw_exit ?_
     refine an_exit ?_
     refine an_exit ?_
     refine ib_exit (by kernel_rfl) ?_
     refine an_exit ?_
     refine ib_exit (by kernel_rfl) ?_
     refine an_exit ?_
     refine ib_same ?_
     refine an ?_
     refine xw_seq ?_
     refine rg [] 4 ⟨[(6, .i 10), (5, .u 0), (7, .u (ldw xs ys (a + 1))), (4, .p 2), (3, .p 1), (2, .p 0)], [(2, .cells (mr W xs ys [.i s, .i b, .i l, .i p, .i q]) 31), (1, .cells [.u a] 41), (0, .cells (mr W xs ys [.i s, .i b, .i l, .i p, .i q]) 31)], 3⟩ [True, True] ⟨trivial, trivial, trivial⟩ ?_
     refine xw_ret ?_
     refine an_ret ?_
     refine ib_ret ?_
     refine an_ret ?_
     refine ib_ret ?_
     refine an_ret ?_
     refine ib_ret ?_
     refine an_ret ?_
     refine juu_ret ?_
     exact bs (.tup [.agg (mr W xs ys [.i s, .i b, .i l, .i p, .i q]), .u 0, .i 10]) (Or.inr <| Or.inr <| Or.inr <| Or.inr <| Or.inl <| ⟨(by omega), (by omega), (by omega), (by omega), (by omega), (by omega), rfl⟩)
   ·
    replace h7 : (ldw xs ys (a + 1)) = 0 := bne_eq_false_iff_eq.1 h7
    refine rk [] 6 9 ⟨[(28, .f), (8, .i 0), (7, .u (ldw xs ys (a + 1))), (6, .i 0), (5, .u 0), (4, .p 2), (3, .p 1), (2, .p 0)], [(2, .cells [.i 0, .nils, .nils, .i 0, .i 0, .i 0, .i 0, .i 0] 31), (1, .cells [.u a] 41), (0, .cells (mr W xs ys [.i s, .i b, .i l, .i p, .i q]) 31)], 3⟩ [True] ⟨trivial, trivial⟩ ?_
    refine en ?_
    refine an ?_
    refine cf ?_
    refine xw_skip ?_
    refine an ?_
    refine xw_seq ?_
    refine xw_seq ?_
    refine reg ?_
    refine rk [] 2 0 ⟨[(45, .u a), (44, .agg (mr W xs ys [.i s, .i b, .i l, .i p, .i q])), (8, .i 0), (7, .u (ldw xs ys (a + 1))), (6, .i 0), (5, .u 0), (4, .p 2), (3, .p 1), (2, .p 0)], [(2, .cells [.i 0, .nils, .nils, .i 0, .i 0, .i 0, .i 0, .i 0] 31), (1, .cells [.u a] 41), (0, .cells (mr W xs ys [.i s, .i b, .i l, .i p, .i q]) 31)], 3⟩ [True, True] ⟨trivial, trivial, trivial⟩ ?_
    refine pc (tover_2 W xs ys s b l p q a ‹_› ‹_› ‹_› ‹_› ‹_› ‹_› ‹_› ‹_› ‹_› (by omega)) ?_
    refine rk [] 1 3 ⟨[(43, .f), (8, .i 0), (7, .u (ldw xs ys (a + 1))), (6, .i 0), (5, .u 0), (4, .p 2), (3, .p 1), (2, .p 0)], [(2, .cells [.i 0, .nils, .nils, .i 0, .i 0, .i 0, .i 0, .i 0] 31), (1, .cells [.u a] 41), (0, .cells (mr W xs ys [.i s, .i b, .i l, .i p, .i q]) 31)], 3⟩ [] trivial ?_
    refine en ?_
    refine an ?_
    refine cf ?_
    refine xw_skip ?_
    refine an ?_
    refine rg [(1, .f)] 3 ⟨[(47, .f), (8, .i 0), (7, .u (ldw xs ys (a + 1))), (6, .i 0), (5, .u 0), (4, .p 2), (3, .p 1), (2, .p 0)], [(2, .cells [.i 0, .nils, .nils, .i 0, .i 0, .i 0, .i 0, .i 0] 31), (1, .cells [.u a] 41), (0, .cells (mr W xs ys [.i s, .i b, .i l, .i p, .i q]) 31)], 3⟩ [((ldw xs ys (a + 1)) != 0) = false] ⟨bne_eq_false_iff_eq.2 (by omega), trivial⟩ ?_
    refine cf ?_
    refine xw_skip ?_
    refine an ?_
    refine xw_exit ?_
    refine ib_exit (by kernel_rfl) ?_
    refine an_exit ?_
    refine ib_exit (by kernel_rfl) ?_
    refine an_exit ?_
    refine ib_exit (by kernel_rfl) ?_
    refine an_exit ?_
    refine ib_exit (by kernel_rfl) ?_
    refine an_exit ?_
    refine ib_exit (by kernel_rfl) ?_
    refine an_exit ?_
    refine ib_same ?_
    refine an ?_
    refine xw_seq ?_
    refine reg ?_
    refine rk [] 3 0 ⟨[(60, .u a), (59, .agg (mm W xs ys)), (6, .i 0), (5, .u 0), (4, .p 2), (3, .p 1), (2, .p 0)], [(2, .cells [.i 0, .nils, .nils, .i 0, .i 0, .i 0, .i 0, .i 0] 31), (1, .cells [.u a] 41), (0, .cells (mr W xs ys [.i s, .i b, .i l, .i p, .i q]) 31)], 3⟩ [True, True] ⟨trivial, trivial, trivial⟩ ?_
    refine pc (oat_1 W xs ys a ‹_› ‹_› ‹_› ‹_› ‹_› ‹_› (by omega)) ?_
    refine rk [] 6 4 ⟨[(9, .p 3), (6, .i 0), (5, .u 0), (4, .p 2), (3, .p 1), (2, .p 0)], [(3, .cells [.i (hT xs ys a), .i (hL xs ys a), .u (hM xs ys a)] 43), (2, .cells [.i 0, .nils, .nils, .i 0, .i 0, .i 0, .i 0, .i 0] 31), (1, .cells [.u a] 41), (0, .cells (mr W xs ys [.i s, .i b, .i l, .i p, .i q]) 31)], 4⟩ [True] ⟨trivial, trivial⟩ ?_
    refine en ?_
    refine an ?_
    refine xw_seq ?_
    by_cases h8 : (((ldw xs ys a / 4294967296) % 16777216) + 2) ≤ l - b
    ·
     refine ureg hmix [4, 5] [⟨[(3, .cells [.i (hT xs ys a), .i (hL xs ys a), .u (hM xs ys a)] 43), (2, .cells [.i 0, .nils, .nils, .i 0, .i 0, .i 0, .i 0, .i 0] 31), (1, .cells [.u a] 41), (0, .cells (mr W xs ys [.i s, .i b, .i l, .i p, .i q]) 31)], [], [4, 5]⟩, ⟨[(4, .cells [.i 0, .i 0, .i 0] 27), (3, .cells [.i (ldw xs ys a / 72057594037927936), .i ((ldw xs ys a / 4294967296) % 16777216), .u (ldw xs ys a % 4294967296)] 43), (2, .cells [.i 0, .nils, .nils, .i 0, .i 0, .i 0, .i 0, .i 0] 31), (1, .cells [.u a] 41), (0, .cells (mr W xs ys [.i s, .i b, .i l, .i p, .i q]) 31)], [9], [5]⟩, ⟨[(5, .cells [.u 0] 41), (3, .cells [.i (ldw xs ys a / 72057594037927936), .i ((ldw xs ys a / 4294967296) % 16777216), .u (ldw xs ys a % 4294967296)] 43), (2, .cells [.i 0, .nils, .nils, .i 0, .i 0, .i 0, .i 0, .i 0] 31), (1, .cells [.u a] 41), (0, .cells (mr W xs ys [.i s, .i b, .i l, .i p, .i q]) 31)], [10], [4]⟩, ⟨[(5, .cells [.u 0] 41), (4, .cells [.i 0, .i 0, .i 0] 27), (3, .cells [.i (ldw xs ys a / 72057594037927936), .i ((ldw xs ys a / 4294967296) % 16777216), .u (ldw xs ys a % 4294967296)] 43), (2, .cells [.i 0, .nils, .nils, .i 0, .i 0, .i 0, .i 0, .i 0] 31), (1, .cells [.u a] 41), (0, .cells (mr W xs ys [.i s, .i b, .i l, .i p, .i q]) 31)], [9, 10], []⟩, ⟨[(5, .cells [.u 0] 41), (4, .cells [.i s, .i (b + (((ldw xs ys a / 4294967296) % 16777216) + 2)), .i l] 27), (3, .cells [.i (ldw xs ys a / 72057594037927936), .i ((ldw xs ys a / 4294967296) % 16777216), .u (ldw xs ys a % 4294967296)] 43), (2, .cells [.i 0, .nils, .nils, .i 0, .i 0, .i 0, .i 0, .i 0] 31), (1, .cells [.u a] 41), (0, .cells (mr W xs ys [.i s, .i b, .i l, .i p, .i q]) 31)], [9, 10, 11], []⟩, ⟨[(5, .cells [.u ((s + 1) * 4294967296 + b)] 41), (4, .cells [.i s, .i (b + (((ldw xs ys a / 4294967296) % 16777216) + 2)), .i l] 27), (3, .cells [.i (ldw xs ys a / 72057594037927936), .i ((ldw xs ys a / 4294967296) % 16777216), .u (ldw xs ys a % 4294967296)] 43), (2, .cells [.i 0, .nils, .nils, .i 0, .i 0, .i 0, .i 0, .i 0] 31), (1, .cells [.u a] 41), (0, .cells (mr W xs ys [.i s, .i b, .i l, .i p, .i q]) 31)], [9, 10, 11, 12], []⟩] [9, 10, 11, 12] [(1, [0]), (3, [2]), (4, [0, 1, 2, 3]), (5, [0, 1, 2, 3, 4]), (6, [0, 1, 2, 3, 4, 5]), (7, [0, 1, 2, 3, 4, 5]), (8, [0, 1, 2, 3, 4, 5]), (11, [0, 1, 2, 3, 4, 5, 6, 9, 10]), (12, [0, 1, 2, 3, 4, 5, 6, 7, 9, 10, 11]), (13, [0, 1, 2, 3, 4, 5, 6, 7, 8, 9, 10, 11, 12])] 5 6 (by kernel_rfl) ?_
     refine urun_ TT_ok [] (Nat.le_of_ble_eq_true (by kernel_rfl)) (by kernel_rfl) 3 0 [(67, .agg [.i (ldw xs ys a / 72057594037927936), .i ((ldw xs ys a / 4294967296) % 16777216), .u (ldw xs ys a % 4294967296)]), (66, .agg [.i s, .i b, .i l]), (65, .loc 0 3), (9, .p 3), (6, .i 0), (5, .u 0), (4, .p 2), (3, .p 1), (2, .p 0)] [(SV.loc 0 3) = SV.loc 0 3, True, (SV.loc 0 3) = SV.loc 0 3, True, (SV.loc 0 3) = SV.loc 0 3, True, True, (SV.agg [.i s, .i b, .i l]) = SV.agg [.i s, .i b, .i l], True, (SV.agg [.i s, .i b, .i l]) = SV.agg [.i s, .i b, .i l], True, (SV.agg [.i s, .i b, .i l]) = SV.agg [.i s, .i b, .i l], True, True, (SV.agg [.i (ldw xs ys a / 72057594037927936), .i ((ldw xs ys a / 4294967296) % 16777216), .u (ldw xs ys a % 4294967296)]) = SV.agg [.i (ldw xs ys a / 72057594037927936), .i ((ldw xs ys a / 4294967296) % 16777216), .u (ldw xs ys a % 4294967296)], True, (SV.agg [.i (ldw xs ys a / 72057594037927936), .i ((ldw xs ys a / 4294967296) % 16777216), .u (ldw xs ys a % 4294967296)]) = SV.agg [.i (ldw xs ys a / 72057594037927936), .i ((ldw xs ys a / 4294967296) % 16777216), .u (ldw xs ys a % 4294967296)], True, (SV.agg [.i (ldw xs ys a / 72057594037927936), .i ((ldw xs ys a / 4294967296) % 16777216), .u (ldw xs ys a % 4294967296)]) = SV.agg [.i (ldw xs ys a / 72057594037927936), .i ((ldw xs ys a / 4294967296) % 16777216), .u (ldw xs ys a % 4294967296)], True, True] (by kernel_rfl) ⟨rfl, trivial, rfl, trivial, rfl, trivial, trivial, rfl, trivial, rfl, trivial, rfl, trivial, trivial, rfl, trivial, rfl, trivial, rfl, trivial, trivial, trivial⟩ ?_
     refine uc (hwords_2 (ldw xs ys a / 72057594037927936) ((ldw xs ys a / 4294967296) % 16777216) (ldw xs ys a % 4294967296) (by omega) (by omega) (by omega) (by omega) (by omega)) ?_
     refine uc (take_1 s b l (((ldw xs ys a / 4294967296) % 16777216) + 2) ‹_› (by omega) ‹_›) ?_
     refine urun_ TT_ok [(9, .p 4), (10, .p 5)] (Nat.le_of_ble_eq_true (by kernel_rfl)) (by kernel_rfl) 9 5 [(8, .i 0), (12, .p 5), (11, .p 4), (72, .i 0), (71, .u ((s + 1) * 4294967296 + b)), (70, .agg [.i s, .i (b + (((ldw xs ys a / 4294967296) % 16777216) + 2)), .i l]), (64, .tup [.agg [.i s, .i (b + (((ldw xs ys a / 4294967296) % 16777216) + 2)), .i l], .u ((s + 1) * 4294967296 + b), .i 0]), (69, .tup [.agg [.i s, .i (b + (((ldw xs ys a / 4294967296) % 16777216) + 2)), .i l], .u ((s + 1) * 4294967296 + b), .i 0]), (68, .i (((ldw xs ys a / 4294967296) % 16777216) + 2)), (67, .agg [.i (ldw xs ys a / 72057594037927936), .i ((ldw xs ys a / 4294967296) % 16777216), .u (ldw xs ys a % 4294967296)]), (66, .agg [.i s, .i b, .i l]), (65, .loc 0 3), (9, .p 3), (6, .i 0), (5, .u 0), (4, .p 2), (3, .p 1), (2, .p 0)] [(SV.tup [.agg [.i s, .i (b + (((ldw xs ys a / 4294967296) % 16777216) + 2)), .i l], .u ((s + 1) * 4294967296 + b), .i 0]) = SV.tup [.agg [.i s, .i (b + (((ldw xs ys a / 4294967296) % 16777216) + 2)), .i l], .u ((s + 1) * 4294967296 + b), .i 0], True, (SV.tup [.agg [.i s, .i (b + (((ldw xs ys a / 4294967296) % 16777216) + 2)), .i l], .u ((s + 1) * 4294967296 + b), .i 0]) = SV.tup [.agg [.i s, .i (b + (((ldw xs ys a / 4294967296) % 16777216) + 2)), .i l], .u ((s + 1) * 4294967296 + b), .i 0], True, (SV.tup [.agg [.i s, .i (b + (((ldw xs ys a / 4294967296) % 16777216) + 2)), .i l], .u ((s + 1) * 4294967296 + b), .i 0]) = SV.tup [.agg [.i s, .i (b + (((ldw xs ys a / 4294967296) % 16777216) + 2)), .i l], .u ((s + 1) * 4294967296 + b), .i 0], True, True, (SV.agg [.i s, .i (b + (((ldw xs ys a / 4294967296) % 16777216) + 2)), .i l]) = SV.agg [.i s, .i (b + (((ldw xs ys a / 4294967296) % 16777216) + 2)), .i l], True, (SV.agg [.i s, .i (b + (((ldw xs ys a / 4294967296) % 16777216) + 2)), .i l]) = SV.agg [.i s, .i (b + (((ldw xs ys a / 4294967296) % 16777216) + 2)), .i l], True, (SV.agg [.i s, .i (b + (((ldw xs ys a / 4294967296) % 16777216) + 2)), .i l]) = SV.agg [.i s, .i (b + (((ldw xs ys a / 4294967296) % 16777216) + 2)), .i l], True, True, (SV.int .u64 ((s + 1) * 4294967296 + b)) = SV.int .u64 ((s + 1) * 4294967296 + b), True, (SV.int .u64 ((s + 1) * 4294967296 + b)) = SV.int .u64 ((s + 1) * 4294967296 + b), True, (SV.int .u64 ((s + 1) * 4294967296 + b)) = SV.int .u64 ((s + 1) * 4294967296 + b), True, (SV.int .u64 ((s + 1) * 4294967296 + b)) = SV.int .u64 ((s + 1) * 4294967296 + b), True, True, (SV.int .i64 0) = SV.int .i64 0, True, (SV.int .i64 0) = SV.int .i64 0, True, (SV.int .i64 0) = SV.int .i64 0, True, (SV.int .i64 0) = SV.int .i64 0, True, (SV.int .i64 0) = SV.int .i64 0, True, True, (SV.loc 4 0) = SV.loc 4 0, ([(4, .cells [.i 0, .i 0, .i 0] 27), (3, .cells [.i (ldw xs ys a / 72057594037927936), .i ((ldw xs ys a / 4294967296) % 16777216), .u (ldw xs ys a % 4294967296)] 43), (2, .cells [.i 0, .nils, .nils, .i 0, .i 0, .i 0, .i 0, .i 0] 31), (1, .cells [.u a] 41), (0, .cells (mr W xs ys [.i s, .i b, .i l, .i p, .i q]) 31)] : Mem) = [(4, .cells [.i 0, .i 0, .i 0] 27), (3, .cells [.i (ldw xs ys a / 72057594037927936), .i ((ldw xs ys a / 4294967296) % 16777216), .u (ldw xs ys a % 4294967296)] 43), (2, .cells [.i 0, .nils, .nils, .i 0, .i 0, .i 0, .i 0, .i 0] 31), (1, .cells [.u a] 41), (0, .cells (mr W xs ys [.i s, .i b, .i l, .i p, .i q]) 31)], ([(5, .cells [.u 0] 41), (4, .cells [.i 0, .i 0, .i 0] 27), (3, .cells [.i (ldw xs ys a / 72057594037927936), .i ((ldw xs ys a / 4294967296) % 16777216), .u (ldw xs ys a % 4294967296)] 43), (2, .cells [.i 0, .nils, .nils, .i 0, .i 0, .i 0, .i 0, .i 0] 31), (1, .cells [.u a] 41), (0, .cells (mr W xs ys [.i s, .i b, .i l, .i p, .i q]) 31)] : Mem) = [(5, .cells [.u 0] 41), (4, .cells [.i 0, .i 0, .i 0] 27), (3, .cells [.i (ldw xs ys a / 72057594037927936), .i ((ldw xs ys a / 4294967296) % 16777216), .u (ldw xs ys a % 4294967296)] 43), (2, .cells [.i 0, .nils, .nils, .i 0, .i 0, .i 0, .i 0, .i 0] 31), (1, .cells [.u a] 41), (0, .cells (mr W xs ys [.i s, .i b, .i l, .i p, .i q]) 31)], (SV.loc 5 0) = SV.loc 5 0, ([(5, .cells [.u 0] 41), (3, .cells [.i (ldw xs ys a / 72057594037927936), .i ((ldw xs ys a / 4294967296) % 16777216), .u (ldw xs ys a % 4294967296)] 43), (2, .cells [.i 0, .nils, .nils, .i 0, .i 0, .i 0, .i 0, .i 0] 31), (1, .cells [.u a] 41), (0, .cells (mr W xs ys [.i s, .i b, .i l, .i p, .i q]) 31)] : Mem) = [(5, .cells [.u 0] 41), (3, .cells [.i (ldw xs ys a / 72057594037927936), .i ((ldw xs ys a / 4294967296) % 16777216), .u (ldw xs ys a % 4294967296)] 43), (2, .cells [.i 0, .nils, .nils, .i 0, .i 0, .i 0, .i 0, .i 0] 31), (1, .cells [.u a] 41), (0, .cells (mr W xs ys [.i s, .i b, .i l, .i p, .i q]) 31)], ([(5, .cells [.u 0] 41), (4, .cells [.i 0, .i 0, .i 0] 27), (3, .cells [.i (ldw xs ys a / 72057594037927936), .i ((ldw xs ys a / 4294967296) % 16777216), .u (ldw xs ys a % 4294967296)] 43), (2, .cells [.i 0, .nils, .nils, .i 0, .i 0, .i 0, .i 0, .i 0] 31), (1, .cells [.u a] 41), (0, .cells (mr W xs ys [.i s, .i b, .i l, .i p, .i q]) 31)] : Mem) = [(5, .cells [.u 0] 41), (4, .cells [.i 0, .i 0, .i 0] 27), (3, .cells [.i (ldw xs ys a / 72057594037927936), .i ((ldw xs ys a / 4294967296) % 16777216), .u (ldw xs ys a % 4294967296)] 43), (2, .cells [.i 0, .nils, .nils, .i 0, .i 0, .i 0, .i 0, .i 0] 31), (1, .cells [.u a] 41), (0, .cells (mr W xs ys [.i s, .i b, .i l, .i p, .i q]) 31)], True, ([(5, .cells [.u 0] 41), (4, .cells [.i s, .i (b + (((ldw xs ys a / 4294967296) % 16777216) + 2)), .i l] 27), (3, .cells [.i (ldw xs ys a / 72057594037927936), .i ((ldw xs ys a / 4294967296) % 16777216), .u (ldw xs ys a % 4294967296)] 43), (2, .cells [.i 0, .nils, .nils, .i 0, .i 0, .i 0, .i 0, .i 0] 31), (1, .cells [.u a] 41), (0, .cells (mr W xs ys [.i s, .i b, .i l, .i p, .i q]) 31)] : Mem) = [(5, .cells [.u 0] 41), (4, .cells [.i s, .i (b + (((ldw xs ys a / 4294967296) % 16777216) + 2)), .i l] 27), (3, .cells [.i (ldw xs ys a / 72057594037927936), .i ((ldw xs ys a / 4294967296) % 16777216), .u (ldw xs ys a % 4294967296)] 43), (2, .cells [.i 0, .nils, .nils, .i 0, .i 0, .i 0, .i 0, .i 0] 31), (1, .cells [.u a] 41), (0, .cells (mr W xs ys [.i s, .i b, .i l, .i p, .i q]) 31)], True, ([(5, .cells [.u ((s + 1) * 4294967296 + b)] 41), (4, .cells [.i s, .i (b + (((ldw xs ys a / 4294967296) % 16777216) + 2)), .i l] 27), (3, .cells [.i (ldw xs ys a / 72057594037927936), .i ((ldw xs ys a / 4294967296) % 16777216), .u (ldw xs ys a % 4294967296)] 43), (2, .cells [.i 0, .nils, .nils, .i 0, .i 0, .i 0, .i 0, .i 0] 31), (1, .cells [.u a] 41), (0, .cells (mr W xs ys [.i s, .i b, .i l, .i p, .i q]) 31)] : Mem) = [(5, .cells [.u ((s + 1) * 4294967296 + b)] 41), (4, .cells [.i s, .i (b + (((ldw xs ys a / 4294967296) % 16777216) + 2)), .i l] 27), (3, .cells [.i (ldw xs ys a / 72057594037927936), .i ((ldw xs ys a / 4294967296) % 16777216), .u (ldw xs ys a % 4294967296)] 43), (2, .cells [.i 0, .nils, .nils, .i 0, .i 0, .i 0, .i 0, .i 0] 31), (1, .cells [.u a] 41), (0, .cells (mr W xs ys [.i s, .i b, .i l, .i p, .i q]) 31)], True] (by kernel_rfl) ⟨rfl, trivial, rfl, trivial, rfl, trivial, trivial, rfl, trivial, rfl, trivial, rfl, trivial, trivial, rfl, trivial, rfl, trivial, rfl, trivial, rfl, trivial, trivial, rfl, trivial, rfl, trivial, rfl, trivial, rfl, trivial, rfl, trivial, trivial, rfl, rfl, rfl, rfl, rfl, rfl, trivial, rfl, trivial, rfl, trivial, trivial⟩ ?_
     refine uend ?_
     refine an ?_
     refine xw_seq ?_
     refine rg [(1, .f)] 2 ⟨[(74, .f), (12, .p 5), (11, .p 4), (9, .p 3), (6, .i 0), (5, .u 0), (4, .p 2), (3, .p 1), (2, .p 0)], [(5, .cells [.u ((s + 1) * 4294967296 + b)] 41), (4, .cells [.i s, .i (b + ((hL xs ys a) + 2)), .i l] 27), (3, .cells [.i (hT xs ys a), .i (hL xs ys a), .u (hM xs ys a)] 43), (2, .cells [.i 0, .nils, .nils, .i 0, .i 0, .i 0, .i 0, .i 0] 31), (1, .cells [.u a] 41), (0, .cells (mr W xs ys [.i s, .i b, .i l, .i p, .i q]) 31)], 6⟩ [(0 != 0) = false] ⟨bne_eq_false_iff_eq.2 (by omega), trivial⟩ ?_
     refine cf ?_
     refine xw_skip ?_
     refine an ?_
     refine rg [] 3 ⟨[(12, .p 5), (9, .p 3), (6, .i 0), (5, .u 0), (4, .p 2), (3, .p 1), (2, .p 0)], [(5, .cells [.u ((s + 1) * 4294967296 + b)] 41), (3, .cells [.i (hT xs ys a), .i (hL xs ys a), .u (hM xs ys a)] 43), (2, .cells [.i 0, .nils, .nils, .i 0, .i 0, .i 0, .i 0, .i 0] 31), (1, .cells [.u a] 41), (0, .cells (mr W xs ys [.i s, .i (b + ((hL xs ys a) + 2)), .i l, .i p, .i q]) 31)], 6⟩ [True, True] ⟨trivial, trivial, trivial⟩ ?_
     refine rg [(3, .f)] 5 ⟨[(13, .osub 6 1 0 3), (12, .p 5), (6, .i 0), (5, .u 0), (4, .p 2), (2, .p 0)], [(6, .cells [.fn 38 [] [.p 0, .p 1, .p 5, .p 3], .fn 40 [] [.p 0, .p 5], .fn 42 [] [.p 0, .p 1, .p 5]] 1), (5, .cells [.u ((s + 1) * 4294967296 + b)] 41), (3, .cells [.i (hT xs ys a), .i (hL xs ys a), .u (hM xs ys a)] 43), (2, .cells [.i 0, .nils, .nils, .i 0, .i 0, .i 0, .i 0, .i 0] 31), (1, .cells [.u a] 41), (0, .cells (mr W xs ys [.i s, .i (b + ((hL xs ys a) + 2)), .i l, .i p, .i q]) 31)], 7⟩ [] trivial ?_
     refine rg [] 1 ⟨[(14, .i 0), (13, .osub 6 1 0 3), (12, .p 5), (6, .i 0), (5, .u 0), (4, .p 2), (2, .p 0)], [(6, .cells [.fn 38 [] [.p 0, .p 1, .p 5, .p 3], .fn 40 [] [.p 0, .p 5], .fn 42 [] [.p 0, .p 1, .p 5]] 1), (5, .cells [.u ((s + 1) * 4294967296 + b)] 41), (3, .cells [.i (hT xs ys a), .i (hL xs ys a), .u (hM xs ys a)] 43), (2, .cells [.i 0, .nils, .nils, .i 0, .i 0, .i 0, .i 0, .i 0] 31), (1, .cells [.u a] 41), (0, .cells (mr W xs ys [.i s, .i (b + ((hL xs ys a) + 2)), .i l, .i p, .i q]) 31)], 7⟩ [] trivial ?_
     refine xw_seq ?_
     refine xw_label ?_
     refine an ?_
     refine xw_seq ?_
     refine reg ?_
     refine rk [] 4 0 ⟨[(85, .fn 38 [] [.p 0, .p 1, .p 5, .p 3]), (14, .i 0), (13, .osub 6 1 0 3), (12, .p 5), (6, .i 0), (5, .u 0), (4, .p 2), (2, .p 0)], [(6, .cells [.fn 38 [] [.p 0, .p 1, .p 5, .p 3], .fn 40 [] [.p 0, .p 5], .fn 42 [] [.p 0, .p 1, .p 5]] 1), (5, .cells [.u ((s + 1) * 4294967296 + b)] 41), (3, .cells [.i (hT xs ys a), .i (hL xs ys a), .u (hM xs ys a)] 43), (2, .cells [.i 0, .nils, .nils, .i 0, .i 0, .i 0, .i 0, .i 0] 31), (1, .cells [.u a] 41), (0, .cells (mr W xs ys [.i s, .i (b + ((hL xs ys a) + 2)), .i l, .i p, .i q]) 31)], 7⟩ [(0 : Int) ≤ 0 ∧ 0 < ((3 : Nat) : Int), True] ⟨(by constructor <;> omega), trivial, trivial⟩ ?_
     refine callx (f := 38) (args := [.p 0, .p 1, .p 5, .p 3]) (d := (some 86)) (by kernel_rfl) (xcall_of TT_ok Try.func38 rfl (by decide) (Nat.le_of_ble_eq_true (by kernel_rfl)) ?_)
     refine sreg hmix [([(6, .cells [.fn 38 [] [.p 0, .p 1, .p 5, .p 3], .fn 40 [] [.p 0, .p 5], .fn 42 [] [.p 0, .p 1, .p 5]] 1), (5, .cells [.u ((s + 1) * 4294967296 + b)] 41), (3, .cells [.i (ldw xs ys a / 72057594037927936), .i ((ldw xs ys a / 4294967296) % 16777216), .u (ldw xs ys a % 4294967296)] 43), (2, .cells [.i 0, .nils, .nils, .i 0, .i 0, .i 0, .i 0, .i 0] 31), (1, .cells [.u a] 41), (0, .cells (mr W xs ys [.i s, .i (b + (((ldw xs ys a / 4294967296) % 16777216) + 2)), .i l, .i p, .i q]) 31)], 7), ([(6, .cells [.fn 38 [] [.p 0, .p 1, .p 5, .p 3], .fn 40 [] [.p 0, .p 5], .fn 42 [] [.p 0, .p 1, .p 5]] 1), (5, .cells [.u ((s + 1) * 4294967296 + b)] 41), (3, .cells [.i (ldw xs ys a / 72057594037927936), .i ((ldw xs ys a / 4294967296) % 16777216), .u (ldw xs ys a % 4294967296)] 43), (2, .cells [.i 0, .nils, .nils, .i 0, .i 0, .i 0, .i 0, .i 0] 31), (1, .cells [.u a] 41), (0, .cells (mr W (mvx xs ys a ((s + 1) * 4294967296 + b) (((ldw xs ys a / 4294967296) % 16777216) + 2)) (mvy xs ys a ((s + 1) * 4294967296 + b) (((ldw xs ys a / 4294967296) % 16777216) + 2)) [.i s, .i (b + (((ldw xs ys a / 4294967296) % 16777216) + 2)), .i l, .i p, .i q]) 31)], 7)] [11] [(1, [0]), (5, [4]), (6, [0, 1, 2, 3, 4, 5]), (7, [0, 1, 2, 3, 4, 5, 6]), (8, [0, 1, 2, 3, 4, 5, 6, 7]), (9, [0, 1, 2, 3, 4, 5, 6, 7]), (10, [0, 1, 2, 3, 4, 5, 6, 7, 8]), (11, [0, 1, 2, 3, 4, 5, 6, 7, 8, 10])] (by kernel_rfl) (by kernel_rfl) (by kernel_rfl) (by kernel_rfl) (by kernel_rfl) ?_
     refine sr [] 5 0 [(9, .agg [.i (ldw xs ys a / 72057594037927936), .i ((ldw xs ys a / 4294967296) % 16777216), .u (ldw xs ys a % 4294967296)]), (8, .u ((s + 1) * 4294967296 + b)), (7, .u a), (6, .agg (mm W xs ys)), (5, .p 0), (0, .p 0), (1, .p 1), (2, .p 5), (3, .p 3)] [True, True, True, True, True] ⟨trivial, trivial, trivial, trivial, trivial, trivial⟩ ?_
     refine sc (hwords_2 (ldw xs ys a / 72057594037927936) ((ldw xs ys a / 4294967296) % 16777216) (ldw xs ys a % 4294967296) (by omega) (by omega) (by omega) (by omega) (by omega)) ?_
     refine sc (amove_1 W xs ys a ((s + 1) * 4294967296 + b) (((ldw xs ys a / 4294967296) % 16777216) + 2) ‹_› ‹_› ‹_› ‹_› ‹_› ‹_› (by omega) (by omega) (by omega) (by omega)) ?_
     obtain ⟨h9, h10, h11, h12⟩ := mv_ok W xs ys a ((s + 1) * 4294967296 + b) (((ldw xs ys a / 4294967296) % 16777216) + 2) ‹_› ‹_› ‹_› ‹_› (by omega) (by omega) (by omega)
     refine sr [] 5 7 [(14, .p 0), (13, .i 0), (12, .agg (mm W (mvx xs ys a ((s + 1) * 4294967296 + b) (((ldw xs ys a / 4294967296) % 16777216) + 2)) (mvy xs ys a ((s + 1) * 4294967296 + b) (((ldw xs ys a / 4294967296) % 16777216) + 2)))), (4, .tup [.agg (mm W (mvx xs ys a ((s + 1) * 4294967296 + b) (((ldw xs ys a / 4294967296) % 16777216) + 2)) (mvy xs ys a ((s + 1) * 4294967296 + b) (((ldw xs ys a / 4294967296) % 16777216) + 2))), .i 0]), (11, .tup [.agg (mm W (mvx xs ys a ((s + 1) * 4294967296 + b) (((ldw xs ys a / 4294967296) % 16777216) + 2)) (mvy xs ys a ((s + 1) * 4294967296 + b) (((ldw xs ys a / 4294967296) % 16777216) + 2))), .i 0]), (10, .i (((ldw xs ys a / 4294967296) % 16777216) + 2)), (9, .agg [.i (ldw xs ys a / 72057594037927936), .i ((ldw xs ys a / 4294967296) % 16777216), .u (ldw xs ys a % 4294967296)]), (8, .u ((s + 1) * 4294967296 + b)), (7, .u a), (6, .agg (mm W xs ys)), (5, .p 0), (0, .p 0), (1, .p 1), (2, .p 5), (3, .p 3)] [True, True, True, True, True, ([(6, .cells [.fn 38 [] [.p 0, .p 1, .p 5, .p 3], .fn 40 [] [.p 0, .p 5], .fn 42 [] [.p 0, .p 1, .p 5]] 1), (5, .cells [.u ((s + 1) * 4294967296 + b)] 41), (3, .cells [.i (ldw xs ys a / 72057594037927936), .i ((ldw xs ys a / 4294967296) % 16777216), .u (ldw xs ys a % 4294967296)] 43), (2, .cells [.i 0, .nils, .nils, .i 0, .i 0, .i 0, .i 0, .i 0] 31), (1, .cells [.u a] 41), (0, .cells (mr W (mvx xs ys a ((s + 1) * 4294967296 + b) (((ldw xs ys a / 4294967296) % 16777216) + 2)) (mvy xs ys a ((s + 1) * 4294967296 + b) (((ldw xs ys a / 4294967296) % 16777216) + 2)) [.i s, .i (b + (((ldw xs ys a / 4294967296) % 16777216) + 2)), .i l, .i p, .i q]) 31)] : Mem) = [(6, .cells [.fn 38 [] [.p 0, .p 1, .p 5, .p 3], .fn 40 [] [.p 0, .p 5], .fn 42 [] [.p 0, .p 1, .p 5]] 1), (5, .cells [.u ((s + 1) * 4294967296 + b)] 41), (3, .cells [.i (ldw xs ys a / 72057594037927936), .i ((ldw xs ys a / 4294967296) % 16777216), .u (ldw xs ys a % 4294967296)] 43), (2, .cells [.i 0, .nils, .nils, .i 0, .i 0, .i 0, .i 0, .i 0] 31), (1, .cells [.u a] 41), (0, .cells (mr W (mvx xs ys a ((s + 1) * 4294967296 + b) (((ldw xs ys a / 4294967296) % 16777216) + 2)) (mvy xs ys a ((s + 1) * 4294967296 + b) (((ldw xs ys a / 4294967296) % 16777216) + 2)) [.i s, .i (b + (((ldw xs ys a / 4294967296) % 16777216) + 2)), .i l, .i p, .i q]) 31)], (7 : Nat) = 7] ⟨trivial, trivial, trivial, trivial, trivial, rfl, rfl, trivial⟩ ?_
     refine sen ?_
     refine ⟨.tup [], by kernel_rfl, ?_⟩
     show XOi _ _ _ _ _ _ _ ⟨[(86, .tup []), (85, .fn 38 [] [.loc 0 0, .loc 1 0, .loc 5 0, .loc 3 0]), (14, .int .i64 0), (13, .osub 6 1 0 3), (12, .loc 5 0), (6, .int .i64 0), (5, .int .u64 0), (4, .loc 2 0), (2, .loc 0 0)], [(6, .cells [.fn 38 [] [.loc 0 0, .loc 1 0, .loc 5 0, .loc 3 0], .fn 40 [] [.loc 0 0, .loc 5 0], .fn 42 [] [.loc 0 0, .loc 1 0, .loc 5 0]] 1), (5, .cells [.int .u64 ((s + 1) * 4294967296 + b)] 41), (3, .cells [.int .i64 (ldw xs ys a / 72057594037927936), .int .i64 ((ldw xs ys a / 4294967296) % 16777216), .int .u64 (ldw xs ys a % 4294967296)] 43), (2, .cells [.int .i64 0, .nils, .nils, .int .i64 0, .int .i64 0, .int .i64 0, .int .i64 0, .int .i64 0] 31), (1, .cells [.int .u64 a] 41), (0, .cells (mr W (mvx xs ys a ((s + 1) * 4294967296 + b) (((ldw xs ys a / 4294967296) % 16777216) + 2)) (mvy xs ys a ((s + 1) * 4294967296 + b) (((ldw xs ys a / 4294967296) % 16777216) + 2)) [.int .i64 s, .int .i64 (b + (((ldw xs ys a / 4294967296) % 16777216) + 2)), .int .i64 l, .int .i64 p, .int .i64 q]) 31)], 7⟩
     refine en ?_
     refine an ?_
     refine rg [(1, .i 1)] 3 ⟨[(14, .i 1), (13, .osub 6 1 0 3), (12, .p 5), (6, .i 0), (5, .u 0), (4, .p 2), (2, .p 0)], [(6, .cells [.fn 38 [] [.p 0, .p 1, .p 5, .p 3], .fn 40 [] [.p 0, .p 5], .fn 42 [] [.p 0, .p 1, .p 5]] 1), (5, .cells [.u ((s + 1) * 4294967296 + b)] 41), (3, .cells [.i (hT xs ys a), .i (hL xs ys a), .u (hM xs ys a)] 43), (2, .cells [.i 0, .nils, .nils, .i 0, .i 0, .i 0, .i 0, .i 0] 31), (1, .cells [.u a] 41), (0, .cells (mr W (mvx xs ys a ((s + 1) * 4294967296 + b) ((hL xs ys a) + 2)) (mvy xs ys a ((s + 1) * 4294967296 + b) ((hL xs ys a) + 2)) [.i s, .i (b + ((hL xs ys a) + 2)), .i l, .i p, .i q]) 31)], 7⟩ [IntKind.i64.wrap (0 + 1) = 1] ⟨rfl, trivial⟩ ?_
     refine xw_seq ?_
     refine rg [(2, .i 3), (3, .t)] 4 ⟨[(92, .t), (14, .i 1), (13, .osub 6 1 0 3), (12, .p 5), (6, .i 0), (5, .u 0), (4, .p 2), (2, .p 0)], [(6, .cells [.fn 38 [] [.p 0, .p 1, .p 5, .p 3], .fn 40 [] [.p 0, .p 5], .fn 42 [] [.p 0, .p 1, .p 5]] 1), (5, .cells [.u ((s + 1) * 4294967296 + b)] 41), (3, .cells [.i (hT xs ys a), .i (hL xs ys a), .u (hM xs ys a)] 43), (2, .cells [.i 0, .nils, .nils, .i 0, .i 0, .i 0, .i 0, .i 0] 31), (1, .cells [.u a] 41), (0, .cells (mr W (mvx xs ys a ((s + 1) * 4294967296 + b) ((hL xs ys a) + 2)) (mvy xs ys a ((s + 1) * 4294967296 + b) ((hL xs ys a) + 2)) [.i s, .i (b + ((hL xs ys a) + 2)), .i l, .i p, .i q]) 31)], 7⟩ [(((3 : Nat) : Nat) : Int) = 3, (decide (1 < 3)) = true] ⟨rfl, decide_eq_true (by omega), trivial⟩ ?_
     refine ct ?_
     refine xw_goto ?_
     refine an_goto ?_
     refine juu ?_
     refine uj_step ?_
     refine xw_seq ?_
     refine xw_skip ?_
     refine an ?_
     refine xw_seq ?_
     refine reg ?_
     refine rk [] 4 0 ⟨[(85, .fn 40 [] [.p 0, .p 5]), (14, .i 1), (13, .osub 6 1 0 3), (12, .p 5), (6, .i 0), (5, .u 0), (4, .p 2), (2, .p 0)], [(6, .cells [.fn 38 [] [.p 0, .p 1, .p 5, .p 3], .fn 40 [] [.p 0, .p 5], .fn 42 [] [.p 0, .p 1, .p 5]] 1), (5, .cells [.u ((s + 1) * 4294967296 + b)] 41), (3, .cells [.i (hT xs ys a), .i (hL xs ys a), .u (hM xs ys a)] 43), (2, .cells [.i 0, .nils, .nils, .i 0, .i 0, .i 0, .i 0, .i 0] 31), (1, .cells [.u a] 41), (0, .cells (mr W (mvx xs ys a ((s + 1) * 4294967296 + b) ((hL xs ys a) + 2)) (mvy xs ys a ((s + 1) * 4294967296 + b) ((hL xs ys a) + 2)) [.i s, .i (b + ((hL xs ys a) + 2)), .i l, .i p, .i q]) 31)], 7⟩ [(0 : Int) ≤ 1 ∧ 1 < ((3 : Nat) : Int), True] ⟨(by constructor <;> omega), trivial, trivial⟩ ?_
     refine callx (f := 40) (args := [.p 0, .p 5]) (d := (some 86)) (by kernel_rfl) (xcall_of TT_ok Try.func40 rfl (by decide) (Nat.le_of_ble_eq_true (by kernel_rfl)) ?_)
     refine reg ?_
     refine rk [(3, .i (((s + 1) * 4294967296 + b) + 1))] 4 0 ⟨[(6, .u (((s + 1) * 4294967296 + b) + 1)), (4, .agg (mm W (mvx xs ys a ((s + 1) * 4294967296 + b) ((hL xs ys a) + 2)) (mvy xs ys a ((s + 1) * 4294967296 + b) ((hL xs ys a) + 2)))), (0, .p 0)], [(6, .cells [.fn 38 [] [.p 0, .p 1, .p 5, .p 3], .fn 40 [] [.p 0, .p 5], .fn 42 [] [.p 0, .p 1, .p 5]] 1), (5, .cells [.u ((s + 1) * 4294967296 + b)] 41), (3, .cells [.i (hT xs ys a), .i (hL xs ys a), .u (hM xs ys a)] 43), (2, .cells [.i 0, .nils, .nils, .i 0, .i 0, .i 0, .i 0, .i 0] 31), (1, .cells [.u a] 41), (0, .cells (mr W (mvx xs ys a ((s + 1) * 4294967296 + b) ((hL xs ys a) + 2)) (mvy xs ys a ((s + 1) * 4294967296 + b) ((hL xs ys a) + 2)) [.i s, .i (b + ((hL xs ys a) + 2)), .i l, .i p, .i q]) 31)], 7⟩ [True, True, IntKind.u64.wrap (((s + 1) * 4294967296 + b) + 1) = (((s + 1) * 4294967296 + b) + 1)] ⟨trivial, trivial, u64_eq (by omega) (by omega), trivial⟩ ?_
     refine pc (store_1 W (mvx xs ys a ((s + 1) * 4294967296 + b) (((ldw xs ys a / 4294967296) % 16777216) + 2)) (mvy xs ys a ((s + 1) * 4294967296 + b) (((ldw xs ys a / 4294967296) % 16777216) + 2)) (((s + 1) * 4294967296 + b) + 1) 0 ‹_› ‹_› ‹_› ‹_› ‹_› (by omega) (by omega) (by omega)) ?_
     obtain ⟨h13, h14, h15, h16⟩ := stx_ok W (mvx xs ys a ((s + 1) * 4294967296 + b) (((ldw xs ys a / 4294967296) % 16777216) + 2)) (mvy xs ys a ((s + 1) * 4294967296 + b) (((ldw xs ys a / 4294967296) % 16777216) + 2)) (((s + 1) * 4294967296 + b) + 1) 0 ‹_› ‹_› ‹_› ‹_› (by omega)
     have h17 : (ldw (stx (mvx xs ys a ((s + 1) * 4294967296 + b) (((ldw xs ys a / 4294967296) % 16777216) + 2)) (((s + 1) * 4294967296 + b) + 1) 0) (sty (mvy xs ys a ((s + 1) * 4294967296 + b) (((ldw xs ys a / 4294967296) % 16777216) + 2)) (((s + 1) * 4294967296 + b) + 1) 0) a) = (ldw xs ys a) := tw_pre (show (xs.length : Int) = W by omega) (by omega) (by omega) (by omega) (by omega) (by omega) (by omega) (by omega)
     have h18 : (ldw (stx (mvx xs ys a ((s + 1) * 4294967296 + b) (((ldw xs ys a / 4294967296) % 16777216) + 2)) (((s + 1) * 4294967296 + b) + 1) 0) (sty (mvy xs ys a ((s + 1) * 4294967296 + b) (((ldw xs ys a / 4294967296) % 16777216) + 2)) (((s + 1) * 4294967296 + b) + 1) 0) (a + 1)) = (ldw xs ys (a + 1)) := tw_pre (show (xs.length : Int) = W by omega) (by omega) (by omega) (by omega) (by omega) (by omega) (by omega) (by omega)
     have h19 : (oErr W (stx (mvx xs ys a ((s + 1) * 4294967296 + b) (((ldw xs ys a / 4294967296) % 16777216) + 2)) (((s + 1) * 4294967296 + b) + 1) 0) (sty (mvy xs ys a ((s + 1) * 4294967296 + b) (((ldw xs ys a / 4294967296) % 16777216) + 2)) (((s + 1) * 4294967296 + b) + 1) 0) a) = (oErr W xs ys a) := oErr_cong (by omega)
     refine rk [] 5 5 ⟨[], [(6, .cells [.fn 38 [] [.p 0, .p 1, .p 5, .p 3], .fn 40 [] [.p 0, .p 5], .fn 42 [] [.p 0, .p 1, .p 5]] 1), (5, .cells [.u ((s + 1) * 4294967296 + b)] 41), (3, .cells [.i (hT xs ys a), .i (hL xs ys a), .u (hM xs ys a)] 43), (2, .cells [.i 0, .nils, .nils, .i 0, .i 0, .i 0, .i 0, .i 0] 31), (1, .cells [.u a] 41), (0, .cells (mr W (stx (mvx xs ys a ((s + 1) * 4294967296 + b) ((hL xs ys a) + 2)) (((s + 1) * 4294967296 + b) + 1) 0) (sty (mvy xs ys a ((s + 1) * 4294967296 + b) ((hL xs ys a) + 2)) (((s + 1) * 4294967296 + b) + 1) 0) [.i s, .i (b + ((hL xs ys a) + 2)), .i l, .i p, .i q]) 31)], 7⟩ [True] ⟨trivial, trivial⟩ ?_
     refine en ?_
     refine ⟨.tup [], by kernel_rfl, ?_⟩
     show XOi _ _ _ _ _ _ _ ⟨[(86, .tup []), (85, .fn 40 [] [.loc 0 0, .loc 5 0]), (14, .int .i64 1), (13, .osub 6 1 0 3), (12, .loc 5 0), (6, .int .i64 0), (5, .int .u64 0), (4, .loc 2 0), (2, .loc 0 0)], [(6, .cells [.fn 38 [] [.loc 0 0, .loc 1 0, .loc 5 0, .loc 3 0], .fn 40 [] [.loc 0 0, .loc 5 0], .fn 42 [] [.loc 0 0, .loc 1 0, .loc 5 0]] 1), (5, .cells [.int .u64 ((s + 1) * 4294967296 + b)] 41), (3, .cells [.int .i64 (ldw xs ys a / 72057594037927936), .int .i64 ((ldw xs ys a / 4294967296) % 16777216), .int .u64 (ldw xs ys a % 4294967296)] 43), (2, .cells [.int .i64 0, .nils, .nils, .int .i64 0, .int .i64 0, .int .i64 0, .int .i64 0, .int .i64 0] 31), (1, .cells [.int .u64 a] 41), (0, .cells (mr W (stx (mvx xs ys a ((s + 1) * 4294967296 + b) (((ldw xs ys a / 4294967296) % 16777216) + 2)) (((s + 1) * 4294967296 + b) + 1) 0) (sty (mvy xs ys a ((s + 1) * 4294967296 + b) (((ldw xs ys a / 4294967296) % 16777216) + 2)) (((s + 1) * 4294967296 + b) + 1) 0) [.int .i64 s, .int .i64 (b + (((ldw xs ys a / 4294967296) % 16777216) + 2)), .int .i64 l, .int .i64 p, .int .i64 q]) 31)], 7⟩
     refine en ?_
     refine an ?_
     refine rg [(1, .i 2)] 3 ⟨[(14, .i 2), (13, .osub 6 1 0 3), (12, .p 5), (6, .i 0), (5, .u 0), (4, .p 2), (2, .p 0)], [(6, .cells [.fn 38 [] [.p 0, .p 1, .p 5, .p 3], .fn 40 [] [.p 0, .p 5], .fn 42 [] [.p 0, .p 1, .p 5]] 1), (5, .cells [.u ((s + 1) * 4294967296 + b)] 41), (3, .cells [.i (hT xs ys a), .i (hL xs ys a), .u (hM xs ys a)] 43), (2, .cells [.i 0, .nils, .nils, .i 0, .i 0, .i 0, .i 0, .i 0] 31), (1, .cells [.u a] 41), (0, .cells (mr W (stx (mvx xs ys a ((s + 1) * 4294967296 + b) ((hL xs ys a) + 2)) (((s + 1) * 4294967296 + b) + 1) 0) (sty (mvy xs ys a ((s + 1) * 4294967296 + b) ((hL xs ys a) + 2)) (((s + 1) * 4294967296 + b) + 1) 0) [.i s, .i (b + ((hL xs ys a) + 2)), .i l, .i p, .i q]) 31)], 7⟩ [IntKind.i64.wrap (1 + 1) = 2] ⟨rfl, trivial⟩ ?_
     refine xw_seq ?_
     refine rg [(2, .i 3), (3, .t)] 4 ⟨[(92, .t), (14, .i 2), (13, .osub 6 1 0 3), (12, .p 5), (6, .i 0), (5, .u 0), (4, .p 2), (2, .p 0)], [(6, .cells [.fn 38 [] [.p 0, .p 1, .p 5, .p 3], .fn 40 [] [.p 0, .p 5], .fn 42 [] [.p 0, .p 1, .p 5]] 1), (5, .cells [.u ((s + 1) * 4294967296 + b)] 41), (3, .cells [.i (hT xs ys a), .i (hL xs ys a), .u (hM xs ys a)] 43), (2, .cells [.i 0, .nils, .nils, .i 0, .i 0, .i 0, .i 0, .i 0] 31), (1, .cells [.u a] 41), (0, .cells (mr W (stx (mvx xs ys a ((s + 1) * 4294967296 + b) ((hL xs ys a) + 2)) (((s + 1) * 4294967296 + b) + 1) 0) (sty (mvy xs ys a ((s + 1) * 4294967296 + b) ((hL xs ys a) + 2)) (((s + 1) * 4294967296 + b) + 1) 0) [.i s, .i (b + ((hL xs ys a) + 2)), .i l, .i p, .i q]) 31)], 7⟩ [(((3 : Nat) : Nat) : Int) = 3, (decide (2 < 3)) = true] ⟨rfl, decide_eq_true (by omega), trivial⟩ ?_
     refine ct ?_
     refine xw_goto ?_
     refine an_goto ?_
     refine juu ?_
     refine uj_step ?_
     refine xw_seq ?_
     refine xw_skip ?_
     refine an ?_
     refine xw_seq ?_
     refine reg ?_
     refine rk [] 4 0 ⟨[(85, .fn 42 [] [.p 0, .p 1, .p 5]), (14, .i 2), (13, .osub 6 1 0 3), (12, .p 5), (6, .i 0), (5, .u 0), (4, .p 2), (2, .p 0)], [(6, .cells [.fn 38 [] [.p 0, .p 1, .p 5, .p 3], .fn 40 [] [.p 0, .p 5], .fn 42 [] [.p 0, .p 1, .p 5]] 1), (5, .cells [.u ((s + 1) * 4294967296 + b)] 41), (3, .cells [.i (hT xs ys a), .i (hL xs ys a), .u (hM xs ys a)] 43), (2, .cells [.i 0, .nils, .nils, .i 0, .i 0, .i 0, .i 0, .i 0] 31), (1, .cells [.u a] 41), (0, .cells (mr W (stx (mvx xs ys a ((s + 1) * 4294967296 + b) ((hL xs ys a) + 2)) (((s + 1) * 4294967296 + b) + 1) 0) (sty (mvy xs ys a ((s + 1) * 4294967296 + b) ((hL xs ys a) + 2)) (((s + 1) * 4294967296 + b) + 1) 0) [.i s, .i (b + ((hL xs ys a) + 2)), .i l, .i p, .i q]) 31)], 7⟩ [(0 : Int) ≤ 2 ∧ 2 < ((3 : Nat) : Int), True] ⟨(by constructor <;> omega), trivial, trivial⟩ ?_
     refine callx (f := 42) (args := [.p 0, .p 1, .p 5]) (d := (some 86)) (by kernel_rfl) (xcall_of TT_ok Try.func42 rfl (by decide) (Nat.le_of_ble_eq_true (by kernel_rfl)) ?_)
     refine reg ?_
     refine rk [] 4 0 ⟨[(7, .u ((s + 1) * 4294967296 + b)), (6, .u a), (5, .agg (mm W (stx (mvx xs ys a ((s + 1) * 4294967296 + b) ((hL xs ys a) + 2)) (((s + 1) * 4294967296 + b) + 1) 0) (sty (mvy xs ys a ((s + 1) * 4294967296 + b) ((hL xs ys a) + 2)) (((s + 1) * 4294967296 + b) + 1) 0))), (0, .p 0)], [(6, .cells [.fn 38 [] [.p 0, .p 1, .p 5, .p 3], .fn 40 [] [.p 0, .p 5], .fn 42 [] [.p 0, .p 1, .p 5]] 1), (5, .cells [.u ((s + 1) * 4294967296 + b)] 41), (3, .cells [.i (hT xs ys a), .i (hL xs ys a), .u (hM xs ys a)] 43), (2, .cells [.i 0, .nils, .nils, .i 0, .i 0, .i 0, .i 0, .i 0] 31), (1, .cells [.u a] 41), (0, .cells (mr W (stx (mvx xs ys a ((s + 1) * 4294967296 + b) ((hL xs ys a) + 2)) (((s + 1) * 4294967296 + b) + 1) 0) (sty (mvy xs ys a ((s + 1) * 4294967296 + b) ((hL xs ys a) + 2)) (((s + 1) * 4294967296 + b) + 1) 0) [.i s, .i (b + ((hL xs ys a) + 2)), .i l, .i p, .i q]) 31)], 7⟩ [True, True, True] ⟨trivial, trivial, trivial, trivial⟩ ?_
     refine pc (ojoin_1 W (stx (mvx xs ys a ((s + 1) * 4294967296 + b) (((ldw xs ys a / 4294967296) % 16777216) + 2)) (((s + 1) * 4294967296 + b) + 1) 0) (sty (mvy xs ys a ((s + 1) * 4294967296 + b) (((ldw xs ys a / 4294967296) % 16777216) + 2)) (((s + 1) * 4294967296 + b) + 1) 0) a ((s + 1) * 4294967296 + b) ‹_› ‹_› ‹_› ‹_› ‹_› ‹_› (by omega) (by omega) (by omega) (by omega)) ?_
     obtain ⟨h20, h21, h22⟩ := oErr_ok W (stx (mvx xs ys a ((s + 1) * 4294967296 + b) (((ldw xs ys a / 4294967296) % 16777216) + 2)) (((s + 1) * 4294967296 + b) + 1) 0) (sty (mvy xs ys a ((s + 1) * 4294967296 + b) (((ldw xs ys a / 4294967296) % 16777216) + 2)) (((s + 1) * 4294967296 + b) + 1) 0) a (by omega)
     obtain ⟨h23, h24, h25, h26⟩ := stx_ok W (stx (mvx xs ys a ((s + 1) * 4294967296 + b) (((ldw xs ys a / 4294967296) % 16777216) + 2)) (((s + 1) * 4294967296 + b) + 1) 0) (sty (mvy xs ys a ((s + 1) * 4294967296 + b) (((ldw xs ys a / 4294967296) % 16777216) + 2)) (((s + 1) * 4294967296 + b) + 1) 0) (a + 1) ((s + 1) * 4294967296 + b) ‹_› ‹_› ‹_› ‹_› (by omega)
     refine rk [] 6 5 ⟨[], [(6, .cells [.fn 38 [] [.p 0, .p 1, .p 5, .p 3], .fn 40 [] [.p 0, .p 5], .fn 42 [] [.p 0, .p 1, .p 5]] 1), (5, .cells [.u ((s + 1) * 4294967296 + b)] 41), (3, .cells [.i (hT xs ys a), .i (hL xs ys a), .u (hM xs ys a)] 43), (2, .cells [.i 0, .nils, .nils, .i 0, .i 0, .i 0, .i 0, .i 0] 31), (1, .cells [.u a] 41), (0, .cells (mr W (stx (stx (mvx xs ys a ((s + 1) * 4294967296 + b) ((hL xs ys a) + 2)) (((s + 1) * 4294967296 + b) + 1) 0) (a + 1) ((s + 1) * 4294967296 + b)) (sty (sty (mvy xs ys a ((s + 1) * 4294967296 + b) ((hL xs ys a) + 2)) (((s + 1) * 4294967296 + b) + 1) 0) (a + 1) ((s + 1) * 4294967296 + b)) [.i s, .i (b + ((hL xs ys a) + 2)), .i l, .i p, .i q]) 31)], 7⟩ [True] ⟨trivial, trivial⟩ ?_
     refine en ?_
     refine ⟨.tup [], by kernel_rfl, ?_⟩
     show XOi _ _ _ _ _ _ _ ⟨[(86, .tup []), (85, .fn 42 [] [.loc 0 0, .loc 1 0, .loc 5 0]), (14, .int .i64 2), (13, .osub 6 1 0 3), (12, .loc 5 0), (6, .int .i64 0), (5, .int .u64 0), (4, .loc 2 0), (2, .loc 0 0)], [(6, .cells [.fn 38 [] [.loc 0 0, .loc 1 0, .loc 5 0, .loc 3 0], .fn 40 [] [.loc 0 0, .loc 5 0], .fn 42 [] [.loc 0 0, .loc 1 0, .loc 5 0]] 1), (5, .cells [.int .u64 ((s + 1) * 4294967296 + b)] 41), (3, .cells [.int .i64 (ldw xs ys a / 72057594037927936), .int .i64 ((ldw xs ys a / 4294967296) % 16777216), .int .u64 (ldw xs ys a % 4294967296)] 43), (2, .cells [.int .i64 0, .nils, .nils, .int .i64 0, .int .i64 0, .int .i64 0, .int .i64 0, .int .i64 0] 31), (1, .cells [.int .u64 a] 41), (0, .cells (mr W (stx (stx (mvx xs ys a ((s + 1) * 4294967296 + b) (((ldw xs ys a / 4294967296) % 16777216) + 2)) (((s + 1) * 4294967296 + b) + 1) 0) (a + 1) ((s + 1) * 4294967296 + b)) (sty (sty (mvy xs ys a ((s + 1) * 4294967296 + b) (((ldw xs ys a / 4294967296) % 16777216) + 2)) (((s + 1) * 4294967296 + b) + 1) 0) (a + 1) ((s + 1) * 4294967296 + b)) [.int .i64 s, .int .i64 (b + (((ldw xs ys a / 4294967296) % 16777216) + 2)), .int .i64 l, .int .i64 p, .int .i64 q]) 31)], 7⟩
     refine en ?_
     refine an ?_
     refine rg [(1, .i 3)] 3 ⟨[(14, .i 3), (13, .osub 6 1 0 3), (12, .p 5), (6, .i 0), (5, .u 0), (4, .p 2), (2, .p 0)], [(6, .cells [.fn 38 [] [.p 0, .p 1, .p 5, .p 3], .fn 40 [] [.p 0, .p 5], .fn 42 [] [.p 0, .p 1, .p 5]] 1), (5, .cells [.u ((s + 1) * 4294967296 + b)] 41), (3, .cells [.i (hT xs ys a), .i (hL xs ys a), .u (hM xs ys a)] 43), (2, .cells [.i 0, .nils, .nils, .i 0, .i 0, .i 0, .i 0, .i 0] 31), (1, .cells [.u a] 41), (0, .cells (mr W (stx (stx (mvx xs ys a ((s + 1) * 4294967296 + b) ((hL xs ys a) + 2)) (((s + 1) * 4294967296 + b) + 1) 0) (a + 1) ((s + 1) * 4294967296 + b)) (sty (sty (mvy xs ys a ((s + 1) * 4294967296 + b) ((hL xs ys a) + 2)) (((s + 1) * 4294967296 + b) + 1) 0) (a + 1) ((s + 1) * 4294967296 + b)) [.i s, .i (b + ((hL xs ys a) + 2)), .i l, .i p, .i q]) 31)], 7⟩ [IntKind.i64.wrap (2 + 1) = 3] ⟨rfl, trivial⟩ ?_
     refine xw_seq ?_
     refine rg [(2, .i 3), (3, .f)] 4 ⟨[(92, .f), (14, .i 3), (13, .osub 6 1 0 3), (12, .p 5), (6, .i 0), (5, .u 0), (4, .p 2), (2, .p 0)], [(6, .cells [.fn 38 [] [.p 0, .p 1, .p 5, .p 3], .fn 40 [] [.p 0, .p 5], .fn 42 [] [.p 0, .p 1, .p 5]] 1), (5, .cells [.u ((s + 1) * 4294967296 + b)] 41), (3, .cells [.i (hT xs ys a), .i (hL xs ys a), .u (hM xs ys a)] 43), (2, .cells [.i 0, .nils, .nils, .i 0, .i 0, .i 0, .i 0, .i 0] 31), (1, .cells [.u a] 41), (0, .cells (mr W (stx (stx (mvx xs ys a ((s + 1) * 4294967296 + b) ((hL xs ys a) + 2)) (((s + 1) * 4294967296 + b) + 1) 0) (a + 1) ((s + 1) * 4294967296 + b)) (sty (sty (mvy xs ys a ((s + 1) * 4294967296 + b) ((hL xs ys a) + 2)) (((s + 1) * 4294967296 + b) + 1) 0) (a + 1) ((s + 1) * 4294967296 + b)) [.i s, .i (b + ((hL xs ys a) + 2)), .i l, .i p, .i q]) 31)], 7⟩ [(((3 : Nat) : Nat) : Int) = 3, (decide (3 < 3)) = false] ⟨rfl, decide_eq_false (by omega), trivial⟩ ?_
     refine cf ?_
     refine xw_skip ?_
     refine an ?_
     refine xw_seq ?_
     refine sreg hmix [([(6, .cells [.fn 38 [] [.p 0, .p 1, .p 5, .p 3], .fn 40 [] [.p 0, .p 5], .fn 42 [] [.p 0, .p 1, .p 5]] 1), (5, .cells [.u ((s + 1) * 4294967296 + b)] 41), (3, .cells [.i (ldw xs ys a / 72057594037927936), .i ((ldw xs ys a / 4294967296) % 16777216), .u (ldw xs ys a % 4294967296)] 43), (2, .cells [.i 0, .nils, .nils, .i 0, .i 0, .i 0, .i 0, .i 0] 31), (1, .cells [.u a] 41), (0, .cells (mr W (stx (stx (mvx xs ys a ((s + 1) * 4294967296 + b) (((ldw xs ys a / 4294967296) % 16777216) + 2)) (((s + 1) * 4294967296 + b) + 1) 0) (a + 1) ((s + 1) * 4294967296 + b)) (sty (sty (mvy xs ys a ((s + 1) * 4294967296 + b) (((ldw xs ys a / 4294967296) % 16777216) + 2)) (((s + 1) * 4294967296 + b) + 1) 0) (a + 1) ((s + 1) * 4294967296 + b)) [.i s, .i (b + (((ldw xs ys a / 4294967296) % 16777216) + 2)), .i l, .i p, .i q]) 31)], 7), ([(6, .cells [.fn 38 [] [.p 0, .p 1, .p 5, .p 3], .fn 40 [] [.p 0, .p 5], .fn 42 [] [.p 0, .p 1, .p 5]] 1), (5, .cells [.u ((s + 1) * 4294967296 + b)] 41), (3, .cells [.i (ldw xs ys a / 72057594037927936), .i ((ldw xs ys a / 4294967296) % 16777216), .u (ldw xs ys a % 4294967296)] 43), (2, .cells (mr W (stx (stx (mvx xs ys a ((s + 1) * 4294967296 + b) (((ldw xs ys a / 4294967296) % 16777216) + 2)) (((s + 1) * 4294967296 + b) + 1) 0) (a + 1) ((s + 1) * 4294967296 + b)) (sty (sty (mvy xs ys a ((s + 1) * 4294967296 + b) (((ldw xs ys a / 4294967296) % 16777216) + 2)) (((s + 1) * 4294967296 + b) + 1) 0) (a + 1) ((s + 1) * 4294967296 + b)) [.i s, .i (b + (((ldw xs ys a / 4294967296) % 16777216) + 2)), .i l, .i p, .i q]) 31), (1, .cells [.u a] 41), (0, .cells (mr W (stx (stx (mvx xs ys a ((s + 1) * 4294967296 + b) (((ldw xs ys a / 4294967296) % 16777216) + 2)) (((s + 1) * 4294967296 + b) + 1) 0) (a + 1) ((s + 1) * 4294967296 + b)) (sty (sty (mvy xs ys a ((s + 1) * 4294967296 + b) (((ldw xs ys a / 4294967296) % 16777216) + 2)) (((s + 1) * 4294967296 + b) + 1) 0) (a + 1) ((s + 1) * 4294967296 + b)) [.i s, .i (b + (((ldw xs ys a / 4294967296) % 16777216) + 2)), .i l, .i p, .i q]) 31)], 7)] [2] [(2, [0]), (3, [0, 1, 2]), (4, [0, 1, 2, 3])] (by kernel_rfl) (by kernel_rfl) (by kernel_rfl) (by kernel_rfl) (by kernel_rfl) ?_
     refine sr [] 5 0 [(6, .i 0), (5, .u ((s + 1) * 4294967296 + b)), (94, .u ((s + 1) * 4294967296 + b)), (93, .agg (mr W (stx (stx (mvx xs ys a ((s + 1) * 4294967296 + b) (((ldw xs ys a / 4294967296) % 16777216) + 2)) (((s + 1) * 4294967296 + b) + 1) 0) (a + 1) ((s + 1) * 4294967296 + b)) (sty (sty (mvy xs ys a ((s + 1) * 4294967296 + b) (((ldw xs ys a / 4294967296) % 16777216) + 2)) (((s + 1) * 4294967296 + b) + 1) 0) (a + 1) ((s + 1) * 4294967296 + b)) [.i s, .i (b + (((ldw xs ys a / 4294967296) % 16777216) + 2)), .i l, .i p, .i q])), (92, .f), (14, .i 3), (13, .osub 6 1 0 3), (12, .p 5), (6, .i 0), (5, .u 0), (4, .p 2), (2, .p 0)] [True, True, (SV.int .u64 ((s + 1) * 4294967296 + b)) = SV.int .u64 ((s + 1) * 4294967296 + b), True, True, ([(6, .cells [.fn 38 [] [.p 0, .p 1, .p 5, .p 3], .fn 40 [] [.p 0, .p 5], .fn 42 [] [.p 0, .p 1, .p 5]] 1), (5, .cells [.u ((s + 1) * 4294967296 + b)] 41), (3, .cells [.i (ldw xs ys a / 72057594037927936), .i ((ldw xs ys a / 4294967296) % 16777216), .u (ldw xs ys a % 4294967296)] 43), (2, .cells (mr W (stx (stx (mvx xs ys a ((s + 1) * 4294967296 + b) (((ldw xs ys a / 4294967296) % 16777216) + 2)) (((s + 1) * 4294967296 + b) + 1) 0) (a + 1) ((s + 1) * 4294967296 + b)) (sty (sty (mvy xs ys a ((s + 1) * 4294967296 + b) (((ldw xs ys a / 4294967296) % 16777216) + 2)) (((s + 1) * 4294967296 + b) + 1) 0) (a + 1) ((s + 1) * 4294967296 + b)) [.i s, .i (b + (((ldw xs ys a / 4294967296) % 16777216) + 2)), .i l, .i p, .i q]) 31), (1, .cells [.u a] 41), (0, .cells (mr W (stx (stx (mvx xs ys a ((s + 1) * 4294967296 + b) (((ldw xs ys a / 4294967296) % 16777216) + 2)) (((s + 1) * 4294967296 + b) + 1) 0) (a + 1) ((s + 1) * 4294967296 + b)) (sty (sty (mvy xs ys a ((s + 1) * 4294967296 + b) (((ldw xs ys a / 4294967296) % 16777216) + 2)) (((s + 1) * 4294967296 + b) + 1) 0) (a + 1) ((s + 1) * 4294967296 + b)) [.i s, .i (b + (((ldw xs ys a / 4294967296) % 16777216) + 2)), .i l, .i p, .i q]) 31)] : Mem) = [(6, .cells [.fn 38 [] [.p 0, .p 1, .p 5, .p 3], .fn 40 [] [.p 0, .p 5], .fn 42 [] [.p 0, .p 1, .p 5]] 1), (5, .cells [.u ((s + 1) * 4294967296 + b)] 41), (3, .cells [.i (ldw xs ys a / 72057594037927936), .i ((ldw xs ys a / 4294967296) % 16777216), .u (ldw xs ys a % 4294967296)] 43), (2, .cells (mr W (stx (stx (mvx xs ys a ((s + 1) * 4294967296 + b) (((ldw xs ys a / 4294967296) % 16777216) + 2)) (((s + 1) * 4294967296 + b) + 1) 0) (a + 1) ((s + 1) * 4294967296 + b)) (sty (sty (mvy xs ys a ((s + 1) * 4294967296 + b) (((ldw xs ys a / 4294967296) % 16777216) + 2)) (((s + 1) * 4294967296 + b) + 1) 0) (a + 1) ((s + 1) * 4294967296 + b)) [.i s, .i (b + (((ldw xs ys a / 4294967296) % 16777216) + 2)), .i l, .i p, .i q]) 31), (1, .cells [.u a] 41), (0, .cells (mr W (stx (stx (mvx xs ys a ((s + 1) * 4294967296 + b) (((ldw xs ys a / 4294967296) % 16777216) + 2)) (((s + 1) * 4294967296 + b) + 1) 0) (a + 1) ((s + 1) * 4294967296 + b)) (sty (sty (mvy xs ys a ((s + 1) * 4294967296 + b) (((ldw xs ys a / 4294967296) % 16777216) + 2)) (((s + 1) * 4294967296 + b) + 1) 0) (a + 1) ((s + 1) * 4294967296 + b)) [.i s, .i (b + (((ldw xs ys a / 4294967296) % 16777216) + 2)), .i l, .i p, .i q]) 31)], (7 : Nat) = 7, True, True] ⟨trivial, trivial, rfl, trivial, trivial, rfl, rfl, trivial, trivial, trivial⟩ ?_
     refine sen ?_
     refine an ?_
     refine xw_ret ?_
     refine juu_ret ?_
     exact bk_ret (.tup [.agg (mr W (stx (stx (mvx xs ys a ((s + 1) * 4294967296 + b) (((ldw xs ys a / 4294967296) % 16777216) + 2)) (((s + 1) * 4294967296 + b) + 1) 0) (a + 1) ((s + 1) * 4294967296 + b)) (sty (sty (mvy xs ys a ((s + 1) * 4294967296 + b) (((ldw xs ys a / 4294967296) % 16777216) + 2)) (((s + 1) * 4294967296 + b) + 1) 0) (a + 1) ((s + 1) * 4294967296 + b)) [.i s, .i (b + (((ldw xs ys a / 4294967296) % 16777216) + 2)), .i l, .i p, .i q]), .u ((s + 1) * 4294967296 + b), .i 0]) (.tup [.agg (mr W (stx (stx (mvx xs ys a ((s + 1) * 4294967296 + b) (((ldw xs ys a / 4294967296) % 16777216) + 2)) (((s + 1) * 4294967296 + b) + 1) 0) (a + 1) ((s + 1) * 4294967296 + b)) (sty (sty (mvy xs ys a ((s + 1) * 4294967296 + b) (((ldw xs ys a / 4294967296) % 16777216) + 2)) (((s + 1) * 4294967296 + b) + 1) 0) (a + 1) ((s + 1) * 4294967296 + b)) [.i s, .i (b + (((ldw xs ys a / 4294967296) % 16777216) + 2)), .i l, .i p, .i q]), .u ((s + 1) * 4294967296 + b), .i 0]) (.tup [.agg (mr W (tX xs ys a ((s + 1) * 4294967296 + b) (((ldw xs ys a / 4294967296) % 16777216) + 2)) (tY xs ys a ((s + 1) * 4294967296 + b) (((ldw xs ys a / 4294967296) % 16777216) + 2)) [.i s, .i (b + (((ldw xs ys a / 4294967296) % 16777216) + 2)), .i l, .i p, .i q]), .u ((s + 1) * 4294967296 + b), .i 0]) (by kernel_rfl) (by kernel_rfl) (wkd [(W : Int) = W, (false = true → false = true), (m64 (stx (stx (mvx xs ys a ((s + 1) * 4294967296 + b) (((ldw xs ys a / 4294967296) % 16777216) + 2)) (((s + 1) * 4294967296 + b) + 1) 0) (a + 1) ((s + 1) * 4294967296 + b))) = (m64 (tX xs ys a ((s + 1) * 4294967296 + b) (((ldw xs ys a / 4294967296) % 16777216) + 2))), (false = true → false = true), (m64 (sty (sty (mvy xs ys a ((s + 1) * 4294967296 + b) (((ldw xs ys a / 4294967296) % 16777216) + 2)) (((s + 1) * 4294967296 + b) + 1) 0) (a + 1) ((s + 1) * 4294967296 + b))) = (m64 (tY xs ys a ((s + 1) * 4294967296 + b) (((ldw xs ys a / 4294967296) % 16777216) + 2))), (s : Int) = s, ((b + (((ldw xs ys a / 4294967296) % 16777216) + 2)) : Int) = (b + (((ldw xs ys a / 4294967296) % 16777216) + 2)), (l : Int) = l, (p : Int) = p, (q : Int) = q, (((s + 1) * 4294967296 + b) : Int) = ((s + 1) * 4294967296 + b), (0 : Int) = 0] (by kernel_rfl) ⟨rfl, id, (by first | rfl | omega), id, (by first | rfl | omega), rfl, rfl, rfl, rfl, rfl, rfl, rfl, trivial⟩) (Or.inr <| Or.inr <| Or.inr <| Or.inr <| Or.inr <| Or.inr <| Or.inr <| ⟨(by omega), (by omega), (by omega), (by omega), (by omega), (by omega), rfl⟩)
    ·
     refine ureg hmix [4, 5] [⟨[(3, .cells [.i (hT xs ys a), .i (hL xs ys a), .u (hM xs ys a)] 43), (2, .cells [.i 0, .nils, .nils, .i 0, .i 0, .i 0, .i 0, .i 0] 31), (1, .cells [.u a] 41), (0, .cells (mr W xs ys [.i s, .i b, .i l, .i p, .i q]) 31)], [], [4, 5]⟩, ⟨[(4, .cells [.i 0, .i 0, .i 0] 27), (3, .cells [.i (ldw xs ys a / 72057594037927936), .i ((ldw xs ys a / 4294967296) % 16777216), .u (ldw xs ys a % 4294967296)] 43), (2, .cells [.i 0, .nils, .nils, .i 0, .i 0, .i 0, .i 0, .i 0] 31), (1, .cells [.u a] 41), (0, .cells (mr W xs ys [.i s, .i b, .i l, .i p, .i q]) 31)], [9], [5]⟩, ⟨[(5, .cells [.u 0] 41), (3, .cells [.i (ldw xs ys a / 72057594037927936), .i ((ldw xs ys a / 4294967296) % 16777216), .u (ldw xs ys a % 4294967296)] 43), (2, .cells [.i 0, .nils, .nils, .i 0, .i 0, .i 0, .i 0, .i 0] 31), (1, .cells [.u a] 41), (0, .cells (mr W xs ys [.i s, .i b, .i l, .i p, .i q]) 31)], [10], [4]⟩, ⟨[(5, .cells [.u 0] 41), (4, .cells [.i 0, .i 0, .i 0] 27), (3, .cells [.i (ldw xs ys a / 72057594037927936), .i ((ldw xs ys a / 4294967296) % 16777216), .u (ldw xs ys a % 4294967296)] 43), (2, .cells [.i 0, .nils, .nils, .i 0, .i 0, .i 0, .i 0, .i 0] 31), (1, .cells [.u a] 41), (0, .cells (mr W xs ys [.i s, .i b, .i l, .i p, .i q]) 31)], [9, 10], []⟩, ⟨[(5, .cells [.u 0] 41), (4, .cells [.i s, .i b, .i l] 27), (3, .cells [.i (ldw xs ys a / 72057594037927936), .i ((ldw xs ys a / 4294967296) % 16777216), .u (ldw xs ys a % 4294967296)] 43), (2, .cells [.i 0, .nils, .nils, .i 0, .i 0, .i 0, .i 0, .i 0] 31), (1, .cells [.u a] 41), (0, .cells (mr W xs ys [.i s, .i b, .i l, .i p, .i q]) 31)], [9, 10, 11], []⟩, ⟨[(5, .cells [.u 0] 41), (4, .cells [.i s, .i b, .i l] 27), (3, .cells [.i (ldw xs ys a / 72057594037927936), .i ((ldw xs ys a / 4294967296) % 16777216), .u (ldw xs ys a % 4294967296)] 43), (2, .cells [.i 0, .nils, .nils, .i 0, .i 0, .i 0, .i 0, .i 0] 31), (1, .cells [.u a] 41), (0, .cells (mr W xs ys [.i s, .i b, .i l, .i p, .i q]) 31)], [9, 10, 11, 12], []⟩] [9, 10, 11, 12] [(1, [0]), (3, [2]), (4, [0, 1, 2, 3]), (5, [0, 1, 2, 3, 4]), (6, [0, 1, 2, 3, 4, 5]), (7, [0, 1, 2, 3, 4, 5]), (8, [0, 1, 2, 3, 4, 5]), (11, [0, 1, 2, 3, 4, 5, 6, 9, 10]), (12, [0, 1, 2, 3, 4, 5, 6, 7, 9, 10, 11]), (13, [0, 1, 2, 3, 4, 5, 6, 7, 8, 9, 10, 11, 12])] 5 6 (by kernel_rfl) ?_
     refine urun_ TT_ok [] (Nat.le_of_ble_eq_true (by kernel_rfl)) (by kernel_rfl) 3 0 [(67, .agg [.i (ldw xs ys a / 72057594037927936), .i ((ldw xs ys a / 4294967296) % 16777216), .u (ldw xs ys a % 4294967296)]), (66, .agg [.i s, .i b, .i l]), (65, .loc 0 3), (9, .p 3), (6, .i 0), (5, .u 0), (4, .p 2), (3, .p 1), (2, .p 0)] [(SV.loc 0 3) = SV.loc 0 3, True, (SV.loc 0 3) = SV.loc 0 3, True, (SV.loc 0 3) = SV.loc 0 3, True, True, (SV.agg [.i s, .i b, .i l]) = SV.agg [.i s, .i b, .i l], True, (SV.agg [.i s, .i b, .i l]) = SV.agg [.i s, .i b, .i l], True, (SV.agg [.i s, .i b, .i l]) = SV.agg [.i s, .i b, .i l], True, True, (SV.agg [.i (ldw xs ys a / 72057594037927936), .i ((ldw xs ys a / 4294967296) % 16777216), .u (ldw xs ys a % 4294967296)]) = SV.agg [.i (ldw xs ys a / 72057594037927936), .i ((ldw xs ys a / 4294967296) % 16777216), .u (ldw xs ys a % 4294967296)], True, (SV.agg [.i (ldw xs ys a / 72057594037927936), .i ((ldw xs ys a / 4294967296) % 16777216), .u (ldw xs ys a % 4294967296)]) = SV.agg [.i (ldw xs ys a / 72057594037927936), .i ((ldw xs ys a / 4294967296) % 16777216), .u (ldw xs ys a % 4294967296)], True, (SV.agg [.i (ldw xs ys a / 72057594037927936), .i ((ldw xs ys a / 4294967296) % 16777216), .u (ldw xs ys a % 4294967296)]) = SV.agg [.i (ldw xs ys a / 72057594037927936), .i ((ldw xs ys a / 4294967296) % 16777216), .u (ldw xs ys a % 4294967296)], True, True] (by kernel_rfl) ⟨rfl, trivial, rfl, trivial, rfl, trivial, trivial, rfl, trivial, rfl, trivial, rfl, trivial, trivial, rfl, trivial, rfl, trivial, rfl, trivial, trivial, trivial⟩ ?_
     refine uc (hwords_2 (ldw xs ys a / 72057594037927936) ((ldw xs ys a / 4294967296) % 16777216) (ldw xs ys a % 4294967296) (by omega) (by omega) (by omega) (by omega) (by omega)) ?_
     refine uc (take_2 s b l (((ldw xs ys a / 4294967296) % 16777216) + 2) ‹_› (by omega) (by omega)) ?_
     refine urun_ TT_ok [(9, .p 4), (10, .p 5)] (Nat.le_of_ble_eq_true (by kernel_rfl)) (by kernel_rfl) 9 5 [(8, .i 4), (12, .p 5), (11, .p 4), (72, .i 4), (71, .u 0), (70, .agg [.i s, .i b, .i l]), (64, .tup [.agg [.i s, .i b, .i l], .u 0, .i 4]), (69, .tup [.agg [.i s, .i b, .i l], .u 0, .i 4]), (68, .i (((ldw xs ys a / 4294967296) % 16777216) + 2)), (67, .agg [.i (ldw xs ys a / 72057594037927936), .i ((ldw xs ys a / 4294967296) % 16777216), .u (ldw xs ys a % 4294967296)]), (66, .agg [.i s, .i b, .i l]), (65, .loc 0 3), (9, .p 3), (6, .i 0), (5, .u 0), (4, .p 2), (3, .p 1), (2, .p 0)] [(SV.tup [.agg [.i s, .i b, .i l], .u 0, .i 4]) = SV.tup [.agg [.i s, .i b, .i l], .u 0, .i 4], True, (SV.tup [.agg [.i s, .i b, .i l], .u 0, .i 4]) = SV.tup [.agg [.i s, .i b, .i l], .u 0, .i 4], True, (SV.tup [.agg [.i s, .i b, .i l], .u 0, .i 4]) = SV.tup [.agg [.i s, .i b, .i l], .u 0, .i 4], True, True, (SV.agg [.i s, .i b, .i l]) = SV.agg [.i s, .i b, .i l], True, (SV.agg [.i s, .i b, .i l]) = SV.agg [.i s, .i b, .i l], True, (SV.agg [.i s, .i b, .i l]) = SV.agg [.i s, .i b, .i l], True, True, (SV.int .u64 0) = SV.int .u64 0, True, (SV.int .u64 0) = SV.int .u64 0, True, (SV.int .u64 0) = SV.int .u64 0, True, (SV.int .u64 0) = SV.int .u64 0, True, True, (SV.int .i64 4) = SV.int .i64 4, True, (SV.int .i64 4) = SV.int .i64 4, True, (SV.int .i64 4) = SV.int .i64 4, True, (SV.int .i64 4) = SV.int .i64 4, True, (SV.int .i64 4) = SV.int .i64 4, True, True, (SV.loc 4 0) = SV.loc 4 0, ([(4, .cells [.i 0, .i 0, .i 0] 27), (3, .cells [.i (ldw xs ys a / 72057594037927936), .i ((ldw xs ys a / 4294967296) % 16777216), .u (ldw xs ys a % 4294967296)] 43), (2, .cells [.i 0, .nils, .nils, .i 0, .i 0, .i 0, .i 0, .i 0] 31), (1, .cells [.u a] 41), (0, .cells (mr W xs ys [.i s, .i b, .i l, .i p, .i q]) 31)] : Mem) = [(4, .cells [.i 0, .i 0, .i 0] 27), (3, .cells [.i (ldw xs ys a / 72057594037927936), .i ((ldw xs ys a / 4294967296) % 16777216), .u (ldw xs ys a % 4294967296)] 43), (2, .cells [.i 0, .nils, .nils, .i 0, .i 0, .i 0, .i 0, .i 0] 31), (1, .cells [.u a] 41), (0, .cells (mr W xs ys [.i s, .i b, .i l, .i p, .i q]) 31)], ([(5, .cells [.u 0] 41), (4, .cells [.i 0, .i 0, .i 0] 27), (3, .cells [.i (ldw xs ys a / 72057594037927936), .i ((ldw xs ys a / 4294967296) % 16777216), .u (ldw xs ys a % 4294967296)] 43), (2, .cells [.i 0, .nils, .nils, .i 0, .i 0, .i 0, .i 0, .i 0] 31), (1, .cells [.u a] 41), (0, .cells (mr W xs ys [.i s, .i b, .i l, .i p, .i q]) 31)] : Mem) = [(5, .cells [.u 0] 41), (4, .cells [.i 0, .i 0, .i 0] 27), (3, .cells [.i (ldw xs ys a / 72057594037927936), .i ((ldw xs ys a / 4294967296) % 16777216), .u (ldw xs ys a % 4294967296)] 43), (2, .cells [.i 0, .nils, .nils, .i 0, .i 0, .i 0, .i 0, .i 0] 31), (1, .cells [.u a] 41), (0, .cells (mr W xs ys [.i s, .i b, .i l, .i p, .i q]) 31)], (SV.loc 5 0) = SV.loc 5 0, ([(5, .cells [.u 0] 41), (3, .cells [.i (ldw xs ys a / 72057594037927936), .i ((ldw xs ys a / 4294967296) % 16777216), .u (ldw xs ys a % 4294967296)] 43), (2, .cells [.i 0, .nils, .nils, .i 0, .i 0, .i 0, .i 0, .i 0] 31), (1, .cells [.u a] 41), (0, .cells (mr W xs ys [.i s, .i b, .i l, .i p, .i q]) 31)] : Mem) = [(5, .cells [.u 0] 41), (3, .cells [.i (ldw xs ys a / 72057594037927936), .i ((ldw xs ys a / 4294967296) % 16777216), .u (ldw xs ys a % 4294967296)] 43), (2, .cells [.i 0, .nils, .nils, .i 0, .i 0, .i 0, .i 0, .i 0] 31), (1, .cells [.u a] 41), (0, .cells (mr W xs ys [.i s, .i b, .i l, .i p, .i q]) 31)], ([(5, .cells [.u 0] 41), (4, .cells [.i 0, .i 0, .i 0] 27), (3, .cells [.i (ldw xs ys a / 72057594037927936), .i ((ldw xs ys a / 4294967296) % 16777216), .u (ldw xs ys a % 4294967296)] 43), (2, .cells [.i 0, .nils, .nils, .i 0, .i 0, .i 0, .i 0, .i 0] 31), (1, .cells [.u a] 41), (0, .cells (mr W xs ys [.i s, .i b, .i l, .i p, .i q]) 31)] : Mem) = [(5, .cells [.u 0] 41), (4, .cells [.i 0, .i 0, .i 0] 27), (3, .cells [.i (ldw xs ys a / 72057594037927936), .i ((ldw xs ys a / 4294967296) % 16777216), .u (ldw xs ys a % 4294967296)] 43), (2, .cells [.i 0, .nils, .nils, .i 0, .i 0, .i 0, .i 0, .i 0] 31), (1, .cells [.u a] 41), (0, .cells (mr W xs ys [.i s, .i b, .i l, .i p, .i q]) 31)], True, ([(5, .cells [.u 0] 41), (4, .cells [.i s, .i b, .i l] 27), (3, .cells [.i (ldw xs ys a / 72057594037927936), .i ((ldw xs ys a / 4294967296) % 16777216), .u (ldw xs ys a % 4294967296)] 43), (2, .cells [.i 0, .nils, .nils, .i 0, .i 0, .i 0, .i 0, .i 0] 31), (1, .cells [.u a] 41), (0, .cells (mr W xs ys [.i s, .i b, .i l, .i p, .i q]) 31)] : Mem) = [(5, .cells [.u 0] 41), (4, .cells [.i s, .i b, .i l] 27), (3, .cells [.i (ldw xs ys a / 72057594037927936), .i ((ldw xs ys a / 4294967296) % 16777216), .u (ldw xs ys a % 4294967296)] 43), (2, .cells [.i 0, .nils, .nils, .i 0, .i 0, .i 0, .i 0, .i 0] 31), (1, .cells [.u a] 41), (0, .cells (mr W xs ys [.i s, .i b, .i l, .i p, .i q]) 31)], True, ([(5, .cells [.u 0] 41), (4, .cells [.i s, .i b, .i l] 27), (3, .cells [.i (ldw xs ys a / 72057594037927936), .i ((ldw xs ys a / 4294967296) % 16777216), .u (ldw xs ys a % 4294967296)] 43), (2, .cells [.i 0, .nils, .nils, .i 0, .i 0, .i 0, .i 0, .i 0] 31), (1, .cells [.u a] 41), (0, .cells (mr W xs ys [.i s, .i b, .i l, .i p, .i q]) 31)] : Mem) = [(5, .cells [.u 0] 41), (4, .cells [.i s, .i b, .i l] 27), (3, .cells [.i (ldw xs ys a / 72057594037927936), .i ((ldw xs ys a / 4294967296) % 16777216), .u (ldw xs ys a % 4294967296)] 43), (2, .cells [.i 0, .nils, .nils, .i 0, .i 0, .i 0, .i 0, .i 0] 31), (1, .cells [.u a] 41), (0, .cells (mr W xs ys [.i s, .i b, .i l, .i p, .i q]) 31)], True] (by kernel_rfl) ⟨rfl, trivial, rfl, trivial, rfl, trivial, trivial, rfl, trivial, rfl, trivial, rfl, trivial, trivial, rfl, trivial, rfl, trivial, rfl, trivial, rfl, trivial, trivial, rfl, trivial, rfl, trivial, rfl, trivial, rfl, trivial, rfl, trivial, trivial, rfl, rfl, rfl, rfl, rfl, rfl, trivial, rfl, trivial, rfl, trivial, trivial⟩ ?_
     refine uend ?_
     refine an ?_
     refine xw_seq ?_
     refine rg [(1, .t)] 2 ⟨[(74, .t), (12, .p 5), (11, .p 4), (9, .p 3), (6, .i 0), (5, .u 0), (4, .p 2), (3, .p 1), (2, .p 0)], [(5, .cells [.u 0] 41), (4, .cells [.i s, .i b, .i l] 27), (3, .cells [.i (hT xs ys a), .i (hL xs ys a), .u (hM xs ys a)] 43), (2, .cells [.i 0, .nils, .nils, .i 0, .i 0, .i 0, .i 0, .i 0] 31), (1, .cells [.u a] 41), (0, .cells (mr W xs ys [.i s, .i b, .i l, .i p, .i q]) 31)], 6⟩ [(4 != 0) = true] ⟨bne_iff_ne.2 (by omega), trivial⟩ ?_
     refine ct ?_
     refine rg [] 4 ⟨[(6, .i 4), (5, .u 0), (12, .p 5), (11, .p 4), (9, .p 3), (4, .p 2), (3, .p 1), (2, .p 0)], [(5, .cells [.u 0] 41), (4, .cells [.i s, .i b, .i l] 27), (3, .cells [.i (hT xs ys a), .i (hL xs ys a), .u (hM xs ys a)] 43), (2, .cells (mr W xs ys [.i s, .i b, .i l, .i p, .i q]) 31), (1, .cells [.u a] 41), (0, .cells (mr W xs ys [.i s, .i b, .i l, .i p, .i q]) 31)], 6⟩ [True, True] ⟨trivial, trivial, trivial⟩ ?_
     refine xw_ret ?_
     refine an_ret ?_
     refine juu_ret ?_
     exact bs (.tup [.agg (mr W xs ys [.i s, .i b, .i l, .i p, .i q]), .u 0, .i 4]) (Or.inr <| Or.inr <| Or.inr <| Or.inr <| Or.inr <| Or.inr <| Or.inl <| ⟨(by omega), (by omega), (by omega), (by omega), (by omega), (by omega), rfl⟩)
 ·
  by_cases h1 : ((oErr W xs ys a) = 0) ∧ ((ldw xs ys a / 72057594037927936) = 255)
  ·
   refine pc (otwin_2 W xs ys a ‹_› ‹_› ‹_› ‹_› ‹_› ‹_› (by omega) (by omega)) ?_
   obtain ⟨h2, h3, h4⟩ := oErr_ok W xs ys a (by omega)
   refine rk [] 5 4 ⟨[(8, .i 8), (7, .u 0), (6, .i 0), (5, .u 0), (4, .p 2), (3, .p 1), (2, .p 0)], [(2, .cells [.i 0, .nils, .nils, .i 0, .i 0, .i 0, .i 0, .i 0] 31), (1, .cells [.u a] 41), (0, .cells (mr W xs ys [.i s, .i b, .i l, .i p, .i q]) 31)], 3⟩ [] trivial ?_
   refine en ?_
   refine an ?_
   refine xw_seq ?_
   refine xw_block ?_
   refine xw_seq ?_
   refine xw_block ?_
   refine xw_seq ?_
   refine xw_block ?_
   refine xw_seq ?_
   refine xw_block ?_
   refine xw_seq ?_
   refine xw_block ?_
   refine xw_seq ?_
   refine xw_block ?_
   refine xw_seq ?_
   refine xw_seq ?_
   refine rg [(1, .f)] 3 ⟨[(22, .f), (8, .i 8), (7, .u 0), (6, .i 0), (5, .u 0), (4, .p 2), (3, .p 1), (2, .p 0)], [(2, .cells [.i 0, .nils, .nils, .i 0, .i 0, .i 0, .i 0, .i 0] 31), (1, .cells [.u a] 41), (0, .cells (mr W xs ys [.i s, .i b, .i l, .i p, .i q]) 31)], 3⟩ [True, (a == 0) = false] ⟨trivial, beq_eq_false_iff_ne.2 (by omega), trivial⟩ ?_
   refine cf ?_
   refine xw_skip ?_
   refine an ?_
   refine xw_seq ?_
   refine rg [(1, .t)] 3 ⟨[(25, .t), (8, .i 8), (7, .u 0), (6, .i 0), (5, .u 0), (4, .p 2), (3, .p 1), (2, .p 0)], [(2, .cells [.i 0, .nils, .nils, .i 0, .i 0, .i 0, .i 0, .i 0] 31), (1, .cells [.u a] 41), (0, .cells (mr W xs ys [.i s, .i b, .i l, .i p, .i q]) 31)], 3⟩ [(8 != 0) = true] ⟨bne_iff_ne.2 (by omega), trivial⟩ ?_
   refine ct ?_
   refine xw_exit ?_
   refine an_exit ?_
   refine an_exit ?_
   refine ib_exit (by kernel_rfl) ?_
   refine an_exit ?_
   refine ib_same ?_
   refine an ?_
   refine xw_seq ?_
   refine rg [] 5 ⟨[(6, .i 8), (5, .u 0), (7, .u 0), (4, .p 2), (3, .p 1), (2, .p 0)], [(2, .cells (mr W xs ys [.i s, .i b, .i l, .i p, .i q]) 31), (1, .cells [.u a] 41), (0, .cells (mr W xs ys [.i s, .i b, .i l, .i p, .i q]) 31)], 3⟩ [True, True] ⟨trivial, trivial, trivial⟩ ?_
   refine xw_ret ?_
   refine an_ret ?_
   refine ib_ret ?_
   refine an_ret ?_
   refine ib_ret ?_
   refine an_ret ?_
   refine ib_ret ?_
   refine an_ret ?_
   refine ib_ret ?_
   refine an_ret ?_
   refine juu_ret ?_
   exact bs (.tup [.agg (mr W xs ys [.i s, .i b, .i l, .i p, .i q]), .u 0, .i 8]) (Or.inr <| Or.inr <| Or.inl <| ⟨(by omega), (by omega), (by omega), rfl⟩)
  ·
   refine pc (otwin_3 W xs ys a ‹_› ‹_› ‹_› ‹_› ‹_› ‹_› (by omega)) ?_
   have h2 : (oErr W xs ys a) = 2 ∨ (oErr W xs ys a) = 10 := oErr_no W xs ys a (by omega)
   refine rk [] 5 4 ⟨[(8, .i (oErr W xs ys a)), (7, .u 0), (6, .i 0), (5, .u 0), (4, .p 2), (3, .p 1), (2, .p 0)], [(2, .cells [.i 0, .nils, .nils, .i 0, .i 0, .i 0, .i 0, .i 0] 31), (1, .cells [.u a] 41), (0, .cells (mr W xs ys [.i s, .i b, .i l, .i p, .i q]) 31)], 3⟩ [] trivial ?_
   refine en ?_
   refine an ?_
   refine xw_seq ?_
   refine xw_block ?_
   refine xw_seq ?_
   refine xw_block ?_
   refine xw_seq ?_
   refine xw_block ?_
   refine xw_seq ?_
   refine xw_block ?_
   refine xw_seq ?_
   refine xw_block ?_
   refine xw_seq ?_
   refine xw_block ?_
   refine xw_seq ?_
   refine xw_seq ?_
   refine rg [(1, .bool (a == 0))] 3 ⟨[(22, .bool (a == 0)), (8, .i (oErr W xs ys a)), (7, .u 0), (6, .i 0), (5, .u 0), (4, .p 2), (3, .p 1), (2, .p 0)], [(2, .cells [.i 0, .nils, .nils, .i 0, .i 0, .i 0, .i 0, .i 0] 31), (1, .cells [.u a] 41), (0, .cells (mr W xs ys [.i s, .i b, .i l, .i p, .i q]) 31)], 3⟩ [True, (a == 0) = (a == 0)] ⟨trivial, rfl, trivial⟩ ?_
   refine xw_cond (b := (a == 0)) (by kernel_rfl) (fun h3 => ?_) (fun h3 => ?_)
   ·
    replace h3 : a = 0 := eq_of_beq h3
    refine xw_exit ?_
    refine an_exit ?_
    refine an_exit ?_
    refine ib_same ?_
    refine an ?_
    refine xw_seq ?_
    refine rg [] 4 ⟨[(6, .i 0), (5, .u 0), (8, .i (oErr W xs ys a)), (7, .u 0), (4, .p 2), (3, .p 1), (2, .p 0)], [(2, .cells (mr W xs ys [.i s, .i b, .i l, .i p, .i q]) 31), (1, .cells [.u a] 41), (0, .cells (mr W xs ys [.i s, .i b, .i l, .i p, .i q]) 31)], 3⟩ [True, True] ⟨trivial, trivial, trivial⟩ ?_
    refine xw_ret ?_
    refine an_ret ?_
    refine ib_ret ?_
    refine an_ret ?_
    refine ib_ret ?_
    refine an_ret ?_
    refine ib_ret ?_
    refine an_ret ?_
    refine ib_ret ?_
    refine an_ret ?_
    refine ib_ret ?_
    refine an_ret ?_
    refine juu_ret ?_
    exact bs (.tup [.agg (mr W xs ys [.i s, .i b, .i l, .i p, .i q]), .u 0, .i 0]) (Or.inl <| ⟨(by omega), rfl⟩)
   ·
    replace h3 : a ≠ 0 := ne_of_beq_false h3
    refine xw_skip ?_
    refine an ?_
    refine xw_seq ?_
    refine rg [(1, .t)] 3 ⟨[(25, .t), (8, .i (oErr W xs ys a)), (7, .u 0), (6, .i 0), (5, .u 0), (4, .p 2), (3, .p 1), (2, .p 0)], [(2, .cells [.i 0, .nils, .nils, .i 0, .i 0, .i 0, .i 0, .i 0] 31), (1, .cells [.u a] 41), (0, .cells (mr W xs ys [.i s, .i b, .i l, .i p, .i q]) 31)], 3⟩ [((oErr W xs ys a) != 0) = true] ⟨bne_iff_ne.2 (by omega), trivial⟩ ?_
    refine ct ?_
    refine xw_exit ?_
    refine an_exit ?_
    refine an_exit ?_
    refine ib_exit (by kernel_rfl) ?_
    refine an_exit ?_
    refine ib_same ?_
    refine an ?_
    refine xw_seq ?_
    refine rg [] 5 ⟨[(6, .i (oErr W xs ys a)), (5, .u 0), (7, .u 0), (4, .p 2), (3, .p 1), (2, .p 0)], [(2, .cells (mr W xs ys [.i s, .i b, .i l, .i p, .i q]) 31), (1, .cells [.u a] 41), (0, .cells (mr W xs ys [.i s, .i b, .i l, .i p, .i q]) 31)], 3⟩ [True, True] ⟨trivial, trivial, trivial⟩ ?_
    refine xw_ret ?_
    refine an_ret ?_
    refine ib_ret ?_
    refine an_ret ?_
    refine ib_ret ?_
    refine an_ret ?_
    refine ib_ret ?_
    refine an_ret ?_
    refine ib_ret ?_
    refine an_ret ?_
    refine juu_ret ?_
    exact bs (.tup [.agg (mr W xs ys [.i s, .i b, .i l, .i p, .i q]), .u 0, .i (oErr W xs ys a)]) (Or.inr <| Or.inl <| ⟨(by omega), (by omega), rfl⟩)

theorem tto_1 (W : Int) (xs : List Int) (ys : List Int) (s : Int) (b : Int) (l : Int) (p : Int) (q : Int) (a : Int) (hp0 : 16 ≤ W ∧ W ≤ 4096) (hp1 : (xs.length : Int) = W) (hp2 : (ys.length : Int) = W) (hp3 : U64s xs) (hp4 : U64s ys) (hp5 : (s = 0 ∨ s = 1) ∧ 0 ≤ b ∧ b ≤ l ∧ l ≤ 4096) (hp6 : l = W) (hp7 : 0 ≤ p ∧ p ≤ q ∧ q ≤ b) (hp8 : 0 ≤ a ∧ a ≤ 18446744073709551615) (hp9 : a = 0) : Pub Try.prog 16 [.agg (mr W xs ys [.int .i64 s, .int .i64 b, .int .i64 l, .int .i64 p, .int .i64 q]), .int .u64 a] (fun rv => rv = .tup [.agg (mr W xs ys [.int .i64 s, .int .i64 b, .int .i64 l, .int .i64 p, .int .i64 q]), .int .u64 0, .int .i64 0]) := by
  refine (tto W xs ys s b l p q a hp0 hp1 hp2 hp3 hp4 hp5 hp6 hp7 hp8).mono ?_
  rintro _ (⟨g0, rfl⟩ | ⟨g0, g1, rfl⟩ | ⟨g0, g1, g2, rfl⟩ | ⟨g0, g1, g2, g3, rfl⟩ | ⟨g0, g1, g2, g3, g4, g5, rfl⟩ | ⟨g0, g1, g2, g3, g4, g5, rfl⟩ | ⟨g0, g1, g2, g3, g4, g5, rfl⟩ | ⟨g0, g1, g2, g3, g4, g5, rfl⟩)
  · rfl
  · exfalso; first | omega | grind
  · exfalso; first | omega | grind
  · exfalso; first | omega | grind
  · exfalso; first | omega | grind
  · exfalso; first | omega | grind
  · exfalso; first | omega | grind
  · exfalso; first | omega | grind

theorem tto_2 (W : Int) (xs : List Int) (ys : List Int) (s : Int) (b : Int) (l : Int) (p : Int) (q : Int) (a : Int) (hp0 : 16 ≤ W ∧ W ≤ 4096) (hp1 : (xs.length : Int) = W) (hp2 : (ys.length : Int) = W) (hp3 : U64s xs) (hp4 : U64s ys) (hp5 : (s = 0 ∨ s = 1) ∧ 0 ≤ b ∧ b ≤ l ∧ l ≤ 4096) (hp6 : l = W) (hp7 : 0 ≤ p ∧ p ≤ q ∧ q ≤ b) (hp8 : 0 ≤ a ∧ a ≤ 18446744073709551615) (hp9 : a ≠ 0) (hp10 : ¬ ((oErr W xs ys a) = 0)) : Pub Try.prog 16 [.agg (mr W xs ys [.int .i64 s, .int .i64 b, .int .i64 l, .int .i64 p, .int .i64 q]), .int .u64 a] (fun rv => rv = .tup [.agg (mr W xs ys [.int .i64 s, .int .i64 b, .int .i64 l, .int .i64 p, .int .i64 q]), .int .u64 0, .int .i64 (oErr W xs ys a)]) := by
  refine (tto W xs ys s b l p q a hp0 hp1 hp2 hp3 hp4 hp5 hp6 hp7 hp8).mono ?_
  rintro _ (⟨g0, rfl⟩ | ⟨g0, g1, rfl⟩ | ⟨g0, g1, g2, rfl⟩ | ⟨g0, g1, g2, g3, rfl⟩ | ⟨g0, g1, g2, g3, g4, g5, rfl⟩ | ⟨g0, g1, g2, g3, g4, g5, rfl⟩ | ⟨g0, g1, g2, g3, g4, g5, rfl⟩ | ⟨g0, g1, g2, g3, g4, g5, rfl⟩)
  · exfalso; first | omega | grind
  · rfl
  · exfalso; first | omega | grind
  · exfalso; first | omega | grind
  · exfalso; first | omega | grind
  · exfalso; first | omega | grind
  · exfalso; first | omega | grind
  · exfalso; first | omega | grind

theorem tto_3 (W : Int) (xs : List Int) (ys : List Int) (s : Int) (b : Int) (l : Int) (p : Int) (q : Int) (a : Int) (hp0 : 16 ≤ W ∧ W ≤ 4096) (hp1 : (xs.length : Int) = W) (hp2 : (ys.length : Int) = W) (hp3 : U64s xs) (hp4 : U64s ys) (hp5 : (s = 0 ∨ s = 1) ∧ 0 ≤ b ∧ b ≤ l ∧ l ≤ 4096) (hp6 : l = W) (hp7 : 0 ≤ p ∧ p ≤ q ∧ q ≤ b) (hp8 : 0 ≤ a ∧ a ≤ 18446744073709551615) (hp9 : a ≠ 0) (hp10 : (oErr W xs ys a) = 0) (hp11 : (ldw xs ys a / 72057594037927936) = 255) : Pub Try.prog 16 [.agg (mr W xs ys [.int .i64 s, .int .i64 b, .int .i64 l, .int .i64 p, .int .i64 q]), .int .u64 a] (fun rv => rv = .tup [.agg (mr W xs ys [.int .i64 s, .int .i64 b, .int .i64 l, .int .i64 p, .int .i64 q]), .int .u64 0, .int .i64 8]) := by
  refine (tto W xs ys s b l p q a hp0 hp1 hp2 hp3 hp4 hp5 hp6 hp7 hp8).mono ?_
  rintro _ (⟨g0, rfl⟩ | ⟨g0, g1, rfl⟩ | ⟨g0, g1, g2, rfl⟩ | ⟨g0, g1, g2, g3, rfl⟩ | ⟨g0, g1, g2, g3, g4, g5, rfl⟩ | ⟨g0, g1, g2, g3, g4, g5, rfl⟩ | ⟨g0, g1, g2, g3, g4, g5, rfl⟩ | ⟨g0, g1, g2, g3, g4, g5, rfl⟩)
  · exfalso; first | omega | grind
  · exfalso; first | omega | grind
  · rfl
  · exfalso; first | omega | grind
  · exfalso; first | omega | grind
  · exfalso; first | omega | grind
  · exfalso; first | omega | grind
  · exfalso; first | omega | grind

theorem tto_4 (W : Int) (xs : List Int) (ys : List Int) (s : Int) (b : Int) (l : Int) (p : Int) (q : Int) (a : Int) (hp0 : 16 ≤ W ∧ W ≤ 4096) (hp1 : (xs.length : Int) = W) (hp2 : (ys.length : Int) = W) (hp3 : U64s xs) (hp4 : U64s ys) (hp5 : (s = 0 ∨ s = 1) ∧ 0 ≤ b ∧ b ≤ l ∧ l ≤ 4096) (hp6 : l = W) (hp7 : 0 ≤ p ∧ p ≤ q ∧ q ≤ b) (hp8 : 0 ≤ a ∧ a ≤ 18446744073709551615) (hp9 : a ≠ 0) (hp10 : (oErr W xs ys a) = 0) (hp11 : (ldw xs ys a / 72057594037927936) ≠ 255) (hp12 : a / 4294967296 - 1 = s) : Pub Try.prog 16 [.agg (mr W xs ys [.int .i64 s, .int .i64 b, .int .i64 l, .int .i64 p, .int .i64 q]), .int .u64 a] (fun rv => rv = .tup [.agg (mr W xs ys [.int .i64 s, .int .i64 b, .int .i64 l, .int .i64 p, .int .i64 q]), .int .u64 a, .int .i64 0]) := by
  refine (tto W xs ys s b l p q a hp0 hp1 hp2 hp3 hp4 hp5 hp6 hp7 hp8).mono ?_
  rintro _ (⟨g0, rfl⟩ | ⟨g0, g1, rfl⟩ | ⟨g0, g1, g2, rfl⟩ | ⟨g0, g1, g2, g3, rfl⟩ | ⟨g0, g1, g2, g3, g4, g5, rfl⟩ | ⟨g0, g1, g2, g3, g4, g5, rfl⟩ | ⟨g0, g1, g2, g3, g4, g5, rfl⟩ | ⟨g0, g1, g2, g3, g4, g5, rfl⟩)
  · exfalso; first | omega | grind
  · exfalso; first | omega | grind
  · exfalso; first | omega | grind
  · rfl
  · exfalso; first | omega | grind
  · exfalso; first | omega | grind
  · exfalso; first | omega | grind
  · exfalso; first | omega | grind

theorem tto_5 (W : Int) (xs : List Int) (ys : List Int) (s : Int) (b : Int) (l : Int) (p : Int) (q : Int) (a : Int) (hp0 : 16 ≤ W ∧ W ≤ 4096) (hp1 : (xs.length : Int) = W) (hp2 : (ys.length : Int) = W) (hp3 : U64s xs) (hp4 : U64s ys) (hp5 : (s = 0 ∨ s = 1) ∧ 0 ≤ b ∧ b ≤ l ∧ l ≤ 4096) (hp6 : l = W) (hp7 : 0 ≤ p ∧ p ≤ q ∧ q ≤ b) (hp8 : 0 ≤ a ∧ a ≤ 18446744073709551615) (hp9 : a ≠ 0) (hp10 : (oErr W xs ys a) = 0) (hp11 : (ldw xs ys a / 72057594037927936) ≠ 255) (hp12 : ¬ (a / 4294967296 - 1 = s)) (hp13 : (ldw xs ys (a + 1)) ≠ 0) (hp14 : ¬ (1 ≤ (ldw xs ys (a + 1)) / 4294967296 ∧ (ldw xs ys (a + 1)) / 4294967296 ≤ 2 ∧ (ldw xs ys (a + 1)) / 4294967296 - 1 = s)) : Pub Try.prog 16 [.agg (mr W xs ys [.int .i64 s, .int .i64 b, .int .i64 l, .int .i64 p, .int .i64 q]), .int .u64 a] (fun rv => rv = .tup [.agg (mr W xs ys [.int .i64 s, .int .i64 b, .int .i64 l, .int .i64 p, .int .i64 q]), .int .u64 0, .int .i64 10]) := by
  refine (tto W xs ys s b l p q a hp0 hp1 hp2 hp3 hp4 hp5 hp6 hp7 hp8).mono ?_
  rintro _ (⟨g0, rfl⟩ | ⟨g0, g1, rfl⟩ | ⟨g0, g1, g2, rfl⟩ | ⟨g0, g1, g2, g3, rfl⟩ | ⟨g0, g1, g2, g3, g4, g5, rfl⟩ | ⟨g0, g1, g2, g3, g4, g5, rfl⟩ | ⟨g0, g1, g2, g3, g4, g5, rfl⟩ | ⟨g0, g1, g2, g3, g4, g5, rfl⟩)
  · exfalso; first | omega | grind
  · exfalso; first | omega | grind
  · exfalso; first | omega | grind
  · exfalso; first | omega | grind
  · rfl
  · exfalso; first | omega | grind
  · exfalso; first | omega | grind
  · exfalso; first | omega | grind

theorem tto_6 (W : Int) (xs : List Int) (ys : List Int) (s : Int) (b : Int) (l : Int) (p : Int) (q : Int) (a : Int) (hp0 : 16 ≤ W ∧ W ≤ 4096) (hp1 : (xs.length : Int) = W) (hp2 : (ys.length : Int) = W) (hp3 : U64s xs) (hp4 : U64s ys) (hp5 : (s = 0 ∨ s = 1) ∧ 0 ≤ b ∧ b ≤ l ∧ l ≤ 4096) (hp6 : l = W) (hp7 : 0 ≤ p ∧ p ≤ q ∧ q ≤ b) (hp8 : 0 ≤ a ∧ a ≤ 18446744073709551615) (hp9 : a ≠ 0) (hp10 : (oErr W xs ys a) = 0) (hp11 : (ldw xs ys a / 72057594037927936) ≠ 255) (hp12 : ¬ (a / 4294967296 - 1 = s)) (hp13 : (ldw xs ys (a + 1)) ≠ 0) (hp14 : 1 ≤ (ldw xs ys (a + 1)) / 4294967296 ∧ (ldw xs ys (a + 1)) / 4294967296 ≤ 2 ∧ (ldw xs ys (a + 1)) / 4294967296 - 1 = s) : Pub Try.prog 16 [.agg (mr W xs ys [.int .i64 s, .int .i64 b, .int .i64 l, .int .i64 p, .int .i64 q]), .int .u64 a] (fun rv => rv = .tup [.agg (mr W xs ys [.int .i64 s, .int .i64 b, .int .i64 l, .int .i64 p, .int .i64 q]), .int .u64 (ldw xs ys (a + 1)), .int .i64 0]) := by
  refine (tto W xs ys s b l p q a hp0 hp1 hp2 hp3 hp4 hp5 hp6 hp7 hp8).mono ?_
  rintro _ (⟨g0, rfl⟩ | ⟨g0, g1, rfl⟩ | ⟨g0, g1, g2, rfl⟩ | ⟨g0, g1, g2, g3, rfl⟩ | ⟨g0, g1, g2, g3, g4, g5, rfl⟩ | ⟨g0, g1, g2, g3, g4, g5, rfl⟩ | ⟨g0, g1, g2, g3, g4, g5, rfl⟩ | ⟨g0, g1, g2, g3, g4, g5, rfl⟩)
  · exfalso; first | omega | grind
  · exfalso; first | omega | grind
  · exfalso; first | omega | grind
  · exfalso; first | omega | grind
  · exfalso; first | omega | grind
  · rfl
  · exfalso; first | omega | grind
  · exfalso; first | omega | grind

theorem tto_7 (W : Int) (xs : List Int) (ys : List Int) (s : Int) (b : Int) (l : Int) (p : Int) (q : Int) (a : Int) (hp0 : 16 ≤ W ∧ W ≤ 4096) (hp1 : (xs.length : Int) = W) (hp2 : (ys.length : Int) = W) (hp3 : U64s xs) (hp4 : U64s ys) (hp5 : (s = 0 ∨ s = 1) ∧ 0 ≤ b ∧ b ≤ l ∧ l ≤ 4096) (hp6 : l = W) (hp7 : 0 ≤ p ∧ p ≤ q ∧ q ≤ b) (hp8 : 0 ≤ a ∧ a ≤ 18446744073709551615) (hp9 : a ≠ 0) (hp10 : (oErr W xs ys a) = 0) (hp11 : (ldw xs ys a / 72057594037927936) ≠ 255) (hp12 : ¬ (a / 4294967296 - 1 = s)) (hp13 : (ldw xs ys (a + 1)) = 0) (hp14 : l - b < (((ldw xs ys a / 4294967296) % 16777216) + 2)) : Pub Try.prog 16 [.agg (mr W xs ys [.int .i64 s, .int .i64 b, .int .i64 l, .int .i64 p, .int .i64 q]), .int .u64 a] (fun rv => rv = .tup [.agg (mr W xs ys [.int .i64 s, .int .i64 b, .int .i64 l, .int .i64 p, .int .i64 q]), .int .u64 0, .int .i64 4]) := by
  refine (tto W xs ys s b l p q a hp0 hp1 hp2 hp3 hp4 hp5 hp6 hp7 hp8).mono ?_
  rintro _ (⟨g0, rfl⟩ | ⟨g0, g1, rfl⟩ | ⟨g0, g1, g2, rfl⟩ | ⟨g0, g1, g2, g3, rfl⟩ | ⟨g0, g1, g2, g3, g4, g5, rfl⟩ | ⟨g0, g1, g2, g3, g4, g5, rfl⟩ | ⟨g0, g1, g2, g3, g4, g5, rfl⟩ | ⟨g0, g1, g2, g3, g4, g5, rfl⟩)
  · exfalso; first | omega | grind
  · exfalso; first | omega | grind
  · exfalso; first | omega | grind
  · exfalso; first | omega | grind
  · exfalso; first | omega | grind
  · exfalso; first | omega | grind
  · rfl
  · exfalso; first | omega | grind

theorem tto_8 (W : Int) (xs : List Int) (ys : List Int) (s : Int) (b : Int) (l : Int) (p : Int) (q : Int) (a : Int) (hp0 : 16 ≤ W ∧ W ≤ 4096) (hp1 : (xs.length : Int) = W) (hp2 : (ys.length : Int) = W) (hp3 : U64s xs) (hp4 : U64s ys) (hp5 : (s = 0 ∨ s = 1) ∧ 0 ≤ b ∧ b ≤ l ∧ l ≤ 4096) (hp6 : l = W) (hp7 : 0 ≤ p ∧ p ≤ q ∧ q ≤ b) (hp8 : 0 ≤ a ∧ a ≤ 18446744073709551615) (hp9 : a ≠ 0) (hp10 : (oErr W xs ys a) = 0) (hp11 : (ldw xs ys a / 72057594037927936) ≠ 255) (hp12 : ¬ (a / 4294967296 - 1 = s)) (hp13 : (ldw xs ys (a + 1)) = 0) (hp14 : (((ldw xs ys a / 4294967296) % 16777216) + 2) ≤ l - b) : Pub Try.prog 16 [.agg (mr W xs ys [.int .i64 s, .int .i64 b, .int .i64 l, .int .i64 p, .int .i64 q]), .int .u64 a] (fun rv => rv = .tup [.agg (mr W (tX xs ys a ((s + 1) * 4294967296 + b) (((ldw xs ys a / 4294967296) % 16777216) + 2)) (tY xs ys a ((s + 1) * 4294967296 + b) (((ldw xs ys a / 4294967296) % 16777216) + 2)) [.int .i64 s, .int .i64 (b + (((ldw xs ys a / 4294967296) % 16777216) + 2)), .int .i64 l, .int .i64 p, .int .i64 q]), .int .u64 ((s + 1) * 4294967296 + b), .int .i64 0]) := by
  refine (tto W xs ys s b l p q a hp0 hp1 hp2 hp3 hp4 hp5 hp6 hp7 hp8).mono ?_
  rintro _ (⟨g0, rfl⟩ | ⟨g0, g1, rfl⟩ | ⟨g0, g1, g2, rfl⟩ | ⟨g0, g1, g2, g3, rfl⟩ | ⟨g0, g1, g2, g3, g4, g5, rfl⟩ | ⟨g0, g1, g2, g3, g4, g5, rfl⟩ | ⟨g0, g1, g2, g3, g4, g5, rfl⟩ | ⟨g0, g1, g2, g3, g4, g5, rfl⟩)
  · exfalso; first | omega | grind
  · exfalso; first | omega | grind
  · exfalso; first | omega | grind
  · exfalso; first | omega | grind
  · exfalso; first | omega | grind
  · exfalso; first | omega | grind
  · exfalso; first | omega | grind
  · rfl

end Go.Proofs.Ytfcohnhfindlmaa.X
