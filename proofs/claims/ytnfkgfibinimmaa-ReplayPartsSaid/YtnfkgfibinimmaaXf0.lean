/- Contracts of Go functions: what each returns, for every input that its premises name; no memory of the caller is touched. Printed by a program. -/
import Derived.Test.YtnfkgfibinimmaaXe2
import Derived.Test.YtnfkgfibinimmaaXq9
namespace Go.Proofs.Ytnfkgfibinimmaa.X
open Go Go.RowKit
set_option linter.unusedVariables false      -- a premise may serve only to tell which way is taken
set_option linter.unusedSimpArgs false
theorem wwithL (W : Int) (xs ys : List Int) (s p : Int) (zs : List Int) (hp0 : 16 ≤ W ∧ W ≤ 4096) (hp1 : (xs.length : Int) = W) (hp2 : (ys.length : Int) = W) (hp3 : U64s xs) (hp4 : U64s ys) (hp5 : 0 ≤ s ∧ s ≤ 1) (hp6 : 0 ≤ p) (hp7 : 1 ≤ (zs.length : Int)) (hp8 : p + (zs.length : Int) ≤ W) : Pub Try.prog 74 [.agg (mm W xs ys), .i s, .i p, .sl false 1 (m64 zs)] (fun rv => ((s = 0) ∧ rv = .agg (mm W (spl xs p zs) ys)) ∨ ((s = 1) ∧ rv = .agg (mm W xs (spl ys p zs)))) := by
 refine pub_of TT_ok Try.func74 rfl (by decide) (Nat.le_of_ble_eq_true (by kernel_rfl)) (by kernel_rfl) ?_
 refine rg [] 2 ⟨[(8, .p 1), (4, .p 0), (1, .i s), (2, .i p), (3, .sl false 1 (m64 zs))], [(1, .cells [.i 0, .nils, .nils] 25), (0, .cells (mm W xs ys) 108)], 2⟩ [] trivial ?_
 refine rg [] 4 ⟨[(9, .p 2), (8, .p 1), (1, .i s), (2, .i p), (3, .sl false 1 (m64 zs))], [(2, .cells (mm W xs ys) 25), (1, .cells [.i 0, .nils, .nils] 25)], 3⟩ [True, True] ⟨trivial, trivial, trivial⟩ ?_
 refine xw_seq ?_
 refine reg ?_
 refine rk [] 3 0 ⟨[(14, .loc 2 1), (13, .i s), (12, .i s), (9, .p 2), (8, .p 1), (1, .i s), (2, .i p), (3, .sl false 1 (m64 zs))], [(2, .cells (mm W xs ys) 25), (1, .cells [.i 0, .nils, .nils] 25)], 3⟩ [] trivial ?_
 by_cases h0 : s = 0
 ·
  refine seti 13 (k := .i64) (x := s) (y := 0) (by kernel_rfl) (by omega) ?_
  refine rk [] 2 3 ⟨[(16, .sl false 1 (m64 xs)), (12, .i s), (9, .p 2), (8, .p 1), (1, .i s), (2, .i p), (3, .sl false 1 (m64 zs))], [(2, .cells (mm W xs ys) 25), (1, .cells [.i 0, .nils, .nils] 25)], 3⟩ [(0 : Int) ≤ 0 ∧ 0 < ((2 : Nat) : Int), True] ⟨(by constructor <;> omega), trivial, trivial⟩ ?_
  refine callx (f := 78) (args := [.sl false 1 (m64 xs)]) (d := (some 17)) (by kernel_rfl) (xcall_of TT_ok Try.func78 rfl (by decide) (Nat.le_of_ble_eq_true (by kernel_rfl)) ?_)
  refine rg [] 1 ⟨[(2, .nils), (0, .sl false 1 (m64 xs))], [(2, .cells (mm W xs ys) 25), (1, .cells [.i 0, .nils, .nils] 25)], 3⟩ [] trivial ?_
  refine xw_seq ?_
  refine rg [] 2 ⟨[(4, .f), (2, .nils), (0, .sl false 1 (m64 xs))], [(2, .cells (mm W xs ys) 25), (1, .cells [.i 0, .nils, .nils] 25)], 3⟩ [((m64 xs)) ≠ []] ⟨(ne_map (by first | omega | (simp only [len_st]; omega) | (simp; done) | (simp; omega) | (simp [len_st, len_stx, len_sty, len_zx, len_zy]; omega))), trivial⟩ ?_
  refine cf ?_
  refine xw_skip ?_
  refine an ?_
  refine xw_seq ?_
  refine reg ?_
  refine rk [] 3 0 ⟨[(7, .own 4), (2, .nils)], [(4, .row 1 47 (([]) ++ ((m64 xs)))), (2, .cells (mm W xs ys) 25), (1, .cells [.i 0, .nils, .nils] 25)], 5⟩ [(∀ y ∈ ((m64 xs) : List SV), ElemOk y) ∧ (false = true → 1 ≤ ((m64 xs) : List SV).length ∧ ∀ x ∈ ([] : List SV), ElemOk x) ∧ (([] : List SV).length + ((m64 xs) : List SV).length) * 8 ≤ 140737488355328 ∧ ([] : List SV).length + ((m64 xs) : List SV).length ≤ 4611686018427387904] ⟨⟨elem_map, (fun h => by cases h), by first | omega | (simp only [len_st]; omega) | (simp; done) | (simp; omega) | (simp [len_st, len_stx, len_sty, len_zx, len_zy]; omega), by first | omega | (simp only [len_st]; omega) | (simp; done) | (simp; omega) | (simp [len_st, len_stx, len_sty, len_zx, len_zy]; omega)⟩, trivial⟩ ?_
  refine setr 4 (z := 1) (E := 47) (L := (([]) ++ ((m64 xs)))) (L' := (m64 xs)) (by kernel_rfl) nil_app ?_
  refine rk [] 1 3 ⟨[(2, .own 4)], [(4, .row 1 47 (m64 xs)), (2, .cells (mm W xs ys) 25), (1, .cells [.i 0, .nils, .nils] 25)], 5⟩ [] trivial ?_
  refine en ?_
  refine an ?_
  refine xw_ret ?_
  refine ⟨.own 4, by kernel_rfl, ?_⟩
  show XOi _ _ _ _ _ _ _ ⟨[(17, .own 4), (16, .sl false 1 (m64 xs)), (12, .int .i64 s), (9, .loc 2 0), (8, .loc 1 0), (1, .int .i64 s), (2, .int .i64 p), (3, .sl false 1 (m64 zs))], [(4, .row 1 47 (m64 xs)), (2, .cells (mm W xs ys) 25), (1, .cells [.int .i64 0, .nils, .nils] 25)], 5⟩
  refine rk [] 1 6 ⟨[(18, .loc 2 1), (17, .own 4), (12, .i s), (9, .p 2), (8, .p 1), (1, .i s), (2, .i p), (3, .sl false 1 (m64 zs))], [(4, .row 1 47 (m64 xs)), (2, .cells (mm W xs ys) 25), (1, .cells [.i 0, .nils, .nils] 25)], 5⟩ [] trivial ?_
  refine seti 12 (k := .i64) (x := s) (y := 0) (by kernel_rfl) (by omega) ?_
  refine rk [] 2 7 ⟨[(9, .p 2), (8, .p 1), (1, .i s), (2, .i p), (3, .sl false 1 (m64 zs))], [(4, .row 1 47 (m64 xs)), (2, .cells [.i W, .own 4, .sl false 1 (m64 ys)] 25), (1, .cells [.i 0, .nils, .nils] 25)], 5⟩ [(0 : Int) ≤ 0 ∧ 0 < ((2 : Nat) : Int), True] ⟨(by constructor <;> omega), trivial, trivial⟩ ?_
  refine en ?_
  refine an ?_
  refine xw_seq ?_
  refine reg ?_
  refine rk [] 2 0 ⟨[(21, .loc 2 1), (20, .i s), (9, .p 2), (8, .p 1), (2, .i p), (3, .sl false 1 (m64 zs))], [(4, .row 1 47 (m64 xs)), (2, .cells [.i W, .own 4, .sl false 1 (m64 ys)] 25), (1, .cells [.i 0, .nils, .nils] 25)], 5⟩ [] trivial ?_
  refine seti 20 (k := .i64) (x := s) (y := 0) (by kernel_rfl) (by omega) ?_
  refine rk [(7, .i (zs.length : Int))] 6 2 ⟨[(9, .p 2), (8, .p 1)], [(4, .row 1 47 ((((m64 xs) : List SV)).take (p : Int).toNat ++ (((m64 zs) : List SV)).take (((m64 xs)).length - (p : Int).toNat) ++ (((m64 xs) : List SV)).drop ((p : Int).toNat + ((((m64 zs) : List SV)).take (((m64 xs)).length - (p : Int).toNat)).length))), (2, .cells [.i W, .own 4, .sl false 1 (m64 ys)] 25), (1, .cells [.i 0, .nils, .nils] 25)], 5⟩ [(0 : Int) ≤ 0 ∧ 0 < ((2 : Nat) : Int), True, (0 : Int) ≤ p ∧ p ≤ ((((m64 xs)).length : Nat) : Int) ∧ ((m64 xs)) ≠ [], (((((((m64 zs) : List SV)).take (((m64 xs)).length - (p : Int).toNat)).length : Nat) : Int) = (zs.length : Int) ∧ (p : Int).toNat + (((m64 xs)).length - (p : Int).toNat) = (((m64 xs) : List SV)).length ∧ 1 ≤ (((m64 xs)).length - (p : Int).toNat) ∧ 1 ≤ (((m64 zs) : List SV)).length ∧ ∀ y ∈ (((m64 zs) : List SV)), ElemOk y)] ⟨(by constructor <;> omega), trivial, ⟨by omega, by first | omega | (simp only [len_st]; omega) | (simp; done) | (simp; omega) | (simp [len_st, len_stx, len_sty, len_zx, len_zy]; omega), ne_map (by first | omega | (simp only [len_st]; omega) | (simp; done) | (simp; omega) | (simp [len_st, len_stx, len_sty, len_zx, len_zy]; omega))⟩, ⟨by simp; omega, by simp; omega, by simp; omega, by simp; omega, elem_map⟩, trivial⟩ ?_
  refine en ?_
  refine an ?_
  refine rg [] 2 ⟨[(8, .p 1)], [(4, .row 1 47 ((((m64 xs) : List SV)).take (p : Int).toNat ++ (((m64 zs) : List SV)).take (((m64 xs)).length - (p : Int).toNat) ++ (((m64 xs) : List SV)).drop ((p : Int).toNat + ((((m64 zs) : List SV)).take (((m64 xs)).length - (p : Int).toNat)).length))), (1, .cells [.i W, .own 4, .sl false 1 (m64 ys)] 25)], 5⟩ [True, True] ⟨trivial, trivial, trivial⟩ ?_
  refine xw_ret ?_
  exact bk_ret (.agg [.i W, .own 4, .sl false 1 (m64 ys)]) (.agg [.i W, .sl false 1 ((((m64 xs) : List SV)).take (p : Int).toNat ++ (((m64 zs) : List SV)).take (((m64 xs)).length - (p : Int).toNat) ++ (((m64 xs) : List SV)).drop ((p : Int).toNat + ((((m64 zs) : List SV)).take (((m64 xs)).length - (p : Int).toNat)).length)), .sl false 1 (m64 ys)]) (.agg (mm W (spl xs p zs) ys)) (by kernel_rfl) (by kernel_rfl) (wkd [(W : Int) = W, (false = true → false = true), ((((m64 xs) : List SV)).take (p : Int).toNat ++ (((m64 zs) : List SV)).take (((m64 xs)).length - (p : Int).toNat) ++ (((m64 xs) : List SV)).drop ((p : Int).toNat + ((((m64 zs) : List SV)).take (((m64 xs)).length - (p : Int).toNat)).length)) = (m64 (spl xs p zs)), (false = true → false = true), (m64 ys) = (m64 ys)] (by kernel_rfl) ⟨rfl, id, (by first | rfl | omega | exact spliceL (by omega) (by omega)), id, rfl, trivial⟩) (Or.inl <| ⟨(by omega), rfl⟩)
 ·
  refine seti 13 (k := .i64) (x := s) (y := 1) (by kernel_rfl) (by omega) ?_
  refine rk [] 2 3 ⟨[(16, .sl false 1 (m64 ys)), (12, .i s), (9, .p 2), (8, .p 1), (1, .i s), (2, .i p), (3, .sl false 1 (m64 zs))], [(2, .cells (mm W xs ys) 25), (1, .cells [.i 0, .nils, .nils] 25)], 3⟩ [(0 : Int) ≤ 1 ∧ 1 < ((2 : Nat) : Int), True] ⟨(by constructor <;> omega), trivial, trivial⟩ ?_
  refine callx (f := 78) (args := [.sl false 1 (m64 ys)]) (d := (some 17)) (by kernel_rfl) (xcall_of TT_ok Try.func78 rfl (by decide) (Nat.le_of_ble_eq_true (by kernel_rfl)) ?_)
  refine rg [] 1 ⟨[(2, .nils), (0, .sl false 1 (m64 ys))], [(2, .cells (mm W xs ys) 25), (1, .cells [.i 0, .nils, .nils] 25)], 3⟩ [] trivial ?_
  refine xw_seq ?_
  refine rg [] 2 ⟨[(4, .f), (2, .nils), (0, .sl false 1 (m64 ys))], [(2, .cells (mm W xs ys) 25), (1, .cells [.i 0, .nils, .nils] 25)], 3⟩ [((m64 ys)) ≠ []] ⟨(ne_map (by first | omega | (simp only [len_st]; omega) | (simp; done) | (simp; omega) | (simp [len_st, len_stx, len_sty, len_zx, len_zy]; omega))), trivial⟩ ?_
  refine cf ?_
  refine xw_skip ?_
  refine an ?_
  refine xw_seq ?_
  refine reg ?_
  refine rk [] 3 0 ⟨[(7, .own 4), (2, .nils)], [(4, .row 1 47 (([]) ++ ((m64 ys)))), (2, .cells (mm W xs ys) 25), (1, .cells [.i 0, .nils, .nils] 25)], 5⟩ [(∀ y ∈ ((m64 ys) : List SV), ElemOk y) ∧ (false = true → 1 ≤ ((m64 ys) : List SV).length ∧ ∀ x ∈ ([] : List SV), ElemOk x) ∧ (([] : List SV).length + ((m64 ys) : List SV).length) * 8 ≤ 140737488355328 ∧ ([] : List SV).length + ((m64 ys) : List SV).length ≤ 4611686018427387904] ⟨⟨elem_map, (fun h => by cases h), by first | omega | (simp only [len_st]; omega) | (simp; done) | (simp; omega) | (simp [len_st, len_stx, len_sty, len_zx, len_zy]; omega), by first | omega | (simp only [len_st]; omega) | (simp; done) | (simp; omega) | (simp [len_st, len_stx, len_sty, len_zx, len_zy]; omega)⟩, trivial⟩ ?_
  refine setr 4 (z := 1) (E := 47) (L := (([]) ++ ((m64 ys)))) (L' := (m64 ys)) (by kernel_rfl) nil_app ?_
  refine rk [] 1 3 ⟨[(2, .own 4)], [(4, .row 1 47 (m64 ys)), (2, .cells (mm W xs ys) 25), (1, .cells [.i 0, .nils, .nils] 25)], 5⟩ [] trivial ?_
  refine en ?_
  refine an ?_
  refine xw_ret ?_
  refine ⟨.own 4, by kernel_rfl, ?_⟩
  show XOi _ _ _ _ _ _ _ ⟨[(17, .own 4), (16, .sl false 1 (m64 ys)), (12, .int .i64 s), (9, .loc 2 0), (8, .loc 1 0), (1, .int .i64 s), (2, .int .i64 p), (3, .sl false 1 (m64 zs))], [(4, .row 1 47 (m64 ys)), (2, .cells (mm W xs ys) 25), (1, .cells [.int .i64 0, .nils, .nils] 25)], 5⟩
  refine rk [] 1 6 ⟨[(18, .loc 2 1), (17, .own 4), (12, .i s), (9, .p 2), (8, .p 1), (1, .i s), (2, .i p), (3, .sl false 1 (m64 zs))], [(4, .row 1 47 (m64 ys)), (2, .cells (mm W xs ys) 25), (1, .cells [.i 0, .nils, .nils] 25)], 5⟩ [] trivial ?_
  refine seti 12 (k := .i64) (x := s) (y := 1) (by kernel_rfl) (by omega) ?_
  refine rk [] 2 7 ⟨[(9, .p 2), (8, .p 1), (1, .i s), (2, .i p), (3, .sl false 1 (m64 zs))], [(4, .row 1 47 (m64 ys)), (2, .cells [.i W, .sl false 1 (m64 xs), .own 4] 25), (1, .cells [.i 0, .nils, .nils] 25)], 5⟩ [(0 : Int) ≤ 1 ∧ 1 < ((2 : Nat) : Int), True] ⟨(by constructor <;> omega), trivial, trivial⟩ ?_
  refine en ?_
  refine an ?_
  refine xw_seq ?_
  refine reg ?_
  refine rk [] 2 0 ⟨[(21, .loc 2 1), (20, .i s), (9, .p 2), (8, .p 1), (2, .i p), (3, .sl false 1 (m64 zs))], [(4, .row 1 47 (m64 ys)), (2, .cells [.i W, .sl false 1 (m64 xs), .own 4] 25), (1, .cells [.i 0, .nils, .nils] 25)], 5⟩ [] trivial ?_
  refine seti 20 (k := .i64) (x := s) (y := 1) (by kernel_rfl) (by omega) ?_
  refine rk [(7, .i (zs.length : Int))] 6 2 ⟨[(9, .p 2), (8, .p 1)], [(4, .row 1 47 ((((m64 ys) : List SV)).take (p : Int).toNat ++ (((m64 zs) : List SV)).take (((m64 ys)).length - (p : Int).toNat) ++ (((m64 ys) : List SV)).drop ((p : Int).toNat + ((((m64 zs) : List SV)).take (((m64 ys)).length - (p : Int).toNat)).length))), (2, .cells [.i W, .sl false 1 (m64 xs), .own 4] 25), (1, .cells [.i 0, .nils, .nils] 25)], 5⟩ [(0 : Int) ≤ 1 ∧ 1 < ((2 : Nat) : Int), True, (0 : Int) ≤ p ∧ p ≤ ((((m64 ys)).length : Nat) : Int) ∧ ((m64 ys)) ≠ [], (((((((m64 zs) : List SV)).take (((m64 ys)).length - (p : Int).toNat)).length : Nat) : Int) = (zs.length : Int) ∧ (p : Int).toNat + (((m64 ys)).length - (p : Int).toNat) = (((m64 ys) : List SV)).length ∧ 1 ≤ (((m64 ys)).length - (p : Int).toNat) ∧ 1 ≤ (((m64 zs) : List SV)).length ∧ ∀ y ∈ (((m64 zs) : List SV)), ElemOk y)] ⟨(by constructor <;> omega), trivial, ⟨by omega, by first | omega | (simp only [len_st]; omega) | (simp; done) | (simp; omega) | (simp [len_st, len_stx, len_sty, len_zx, len_zy]; omega), ne_map (by first | omega | (simp only [len_st]; omega) | (simp; done) | (simp; omega) | (simp [len_st, len_stx, len_sty, len_zx, len_zy]; omega))⟩, ⟨by simp; omega, by simp; omega, by simp; omega, by simp; omega, elem_map⟩, trivial⟩ ?_
  refine en ?_
  refine an ?_
  refine rg [] 2 ⟨[(8, .p 1)], [(4, .row 1 47 ((((m64 ys) : List SV)).take (p : Int).toNat ++ (((m64 zs) : List SV)).take (((m64 ys)).length - (p : Int).toNat) ++ (((m64 ys) : List SV)).drop ((p : Int).toNat + ((((m64 zs) : List SV)).take (((m64 ys)).length - (p : Int).toNat)).length))), (1, .cells [.i W, .sl false 1 (m64 xs), .own 4] 25)], 5⟩ [True, True] ⟨trivial, trivial, trivial⟩ ?_
  refine xw_ret ?_
  exact bk_ret (.agg [.i W, .sl false 1 (m64 xs), .own 4]) (.agg [.i W, .sl false 1 (m64 xs), .sl false 1 ((((m64 ys) : List SV)).take (p : Int).toNat ++ (((m64 zs) : List SV)).take (((m64 ys)).length - (p : Int).toNat) ++ (((m64 ys) : List SV)).drop ((p : Int).toNat + ((((m64 zs) : List SV)).take (((m64 ys)).length - (p : Int).toNat)).length))]) (.agg (mm W xs (spl ys p zs))) (by kernel_rfl) (by kernel_rfl) (wkd [(W : Int) = W, (false = true → false = true), (m64 xs) = (m64 xs), (false = true → false = true), ((((m64 ys) : List SV)).take (p : Int).toNat ++ (((m64 zs) : List SV)).take (((m64 ys)).length - (p : Int).toNat) ++ (((m64 ys) : List SV)).drop ((p : Int).toNat + ((((m64 zs) : List SV)).take (((m64 ys)).length - (p : Int).toNat)).length)) = (m64 (spl ys p zs))] (by kernel_rfl) ⟨rfl, id, rfl, id, (by first | rfl | omega | exact spliceL (by omega) (by omega)), trivial⟩) (Or.inr <| ⟨(by omega), rfl⟩)

theorem wwithL_1 (W : Int) (xs ys : List Int) (s p : Int) (zs : List Int) (hp0 : 16 ≤ W ∧ W ≤ 4096) (hp1 : (xs.length : Int) = W) (hp2 : (ys.length : Int) = W) (hp3 : U64s xs) (hp4 : U64s ys) (hp5 : 0 ≤ s ∧ s ≤ 1) (hp6 : 0 ≤ p) (hp7 : 1 ≤ (zs.length : Int)) (hp8 : p + (zs.length : Int) ≤ W) (hp9 : s = 0) : Pub Try.prog 74 [.agg (mm W xs ys), .i s, .i p, .sl false 1 (m64 zs)] (fun rv => rv = .agg (mm W (spl xs p zs) ys)) := by
  refine (wwithL W xs ys s p zs hp0 hp1 hp2 hp3 hp4 hp5 hp6 hp7 hp8).mono ?_
  rintro _ (⟨g0, rfl⟩ | ⟨g0, rfl⟩)
  all_goals first | rfl | (exfalso; first | omega | grind)

theorem wwithL_2 (W : Int) (xs ys : List Int) (s p : Int) (zs : List Int) (hp0 : 16 ≤ W ∧ W ≤ 4096) (hp1 : (xs.length : Int) = W) (hp2 : (ys.length : Int) = W) (hp3 : U64s xs) (hp4 : U64s ys) (hp5 : 0 ≤ s ∧ s ≤ 1) (hp6 : 0 ≤ p) (hp7 : 1 ≤ (zs.length : Int)) (hp8 : p + (zs.length : Int) ≤ W) (hp9 : s = 1) : Pub Try.prog 74 [.agg (mm W xs ys), .i s, .i p, .sl false 1 (m64 zs)] (fun rv => rv = .agg (mm W xs (spl ys p zs))) := by
  refine (wwithL W xs ys s p zs hp0 hp1 hp2 hp3 hp4 hp5 hp6 hp7 hp8).mono ?_
  rintro _ (⟨g0, rfl⟩ | ⟨g0, rfl⟩)
  all_goals first | rfl | (exfalso; first | omega | grind)

set_option maxHeartbeats 8000000 in
theorem amove (W : Int) (xs ys : List Int) (a c n : Int) (hp0 : 16 ≤ W ∧ W ≤ 4096) (hp1 : (xs.length : Int) = W) (hp2 : (ys.length : Int) = W) (hp3 : U64s xs) (hp4 : U64s ys) (hp5 : 0 ≤ a ∧ a ≤ 18446744073709551615) (hp6 : 0 ≤ c ∧ c ≤ 18446744073709551615) (hp7 : 1 ≤ n ∧ n ≤ 4096) : Pub Try.prog 56 [.agg (mm W xs ys), .u a, .u c, .i n] (fun rv => ((1 ≤ a / 4294967296 ∧ a / 4294967296 ≤ 2 ∧ a % 4294967296 + n ≤ W) ∧ (1 ≤ c / 4294967296 ∧ c / 4294967296 ≤ 2 ∧ c % 4294967296 + n ≤ W) ∧ rv = .tup [.agg (mm W (mvx xs ys a c n) (mvy xs ys a c n)), .i 0]) ∨ ((¬ ((1 ≤ a / 4294967296 ∧ a / 4294967296 ≤ 2 ∧ a % 4294967296 + n ≤ W) ∧ (1 ≤ c / 4294967296 ∧ c / 4294967296 ≤ 2 ∧ c % 4294967296 + n ≤ W))) ∧ rv = .tup [.agg (mm W xs ys), .i 2])) := by
 refine pub_of TT_ok Try.func56 rfl (by decide) (Nat.le_of_ble_eq_true (by kernel_rfl)) (by kernel_rfl) ?_
 refine rg [] 3 ⟨[(9, .i 0), (8, .p 1), (4, .p 0), (1, .u a), (2, .u c), (3, .i n)], [(1, .cells [.i 0, .nils, .nils] 25), (0, .cells (mm W xs ys) 25)], 2⟩ [] trivial ?_
 refine xw_seq ?_
 refine rg [(1, .f)] 2 ⟨[(17, .f), (9, .i 0), (8, .p 1), (4, .p 0), (1, .u a), (2, .u c), (3, .i n)], [(1, .cells [.i 0, .nils, .nils] 25), (0, .cells (mm W xs ys) 25)], 2⟩ [(decide (n < 0)) = false] ⟨decide_eq_false (by omega), trivial⟩ ?_
 refine cf ?_
 refine xw_skip ?_
 refine an ?_
 refine xw_seq ?_
 refine reg ?_
 refine rk [] 4 0 ⟨[(23, .i n), (22, .u a), (21, .agg (mm W xs ys)), (9, .i 0), (8, .p 1), (4, .p 0), (2, .u c), (3, .i n)], [(1, .cells [.i 0, .nils, .nils] 25), (0, .cells (mm W xs ys) 25)], 2⟩ [True] ⟨trivial, trivial⟩ ?_
 by_cases h0 : 1 ≤ a / 4294967296 ∧ a / 4294967296 ≤ 2 ∧ a % 4294967296 < W ∧ 0 ≤ n ∧ a % 4294967296 + n ≤ W
 ·
  refine pc (wthere_1 W xs ys a n ‹_› ‹_› ‹_› ‹_› ‹_› ‹_› (by omega) (by omega)) ?_
  refine rk [] 7 5 ⟨[(12, .t), (11, .i (a % 4294967296)), (10, .i (a / 4294967296 - 1)), (9, .i 0), (8, .p 1), (4, .p 0), (2, .u c), (3, .i n)], [(1, .cells [.i 0, .nils, .nils] 25), (0, .cells (mm W xs ys) 25)], 2⟩ [] trivial ?_
  refine en ?_
  refine an ?_
  refine xw_seq ?_
  refine reg ?_
  refine rk [] 4 0 ⟨[(32, .i n), (31, .u c), (30, .agg (mm W xs ys)), (12, .t), (11, .i (a % 4294967296)), (10, .i (a / 4294967296 - 1)), (9, .i 0), (8, .p 1), (4, .p 0), (3, .i n)], [(1, .cells [.i 0, .nils, .nils] 25), (0, .cells (mm W xs ys) 25)], 2⟩ [True] ⟨trivial, trivial⟩ ?_
  by_cases h1 : 1 ≤ c / 4294967296 ∧ c / 4294967296 ≤ 2 ∧ c % 4294967296 < W ∧ 0 ≤ n ∧ c % 4294967296 + n ≤ W
  ·
   refine pc (wthere_1 W xs ys c n ‹_› ‹_› ‹_› ‹_› ‹_› ‹_› (by omega) (by omega)) ?_
   refine rk [] 7 5 ⟨[(15, .t), (14, .i (c % 4294967296)), (13, .i (c / 4294967296 - 1)), (12, .t), (11, .i (a % 4294967296)), (10, .i (a / 4294967296 - 1)), (9, .i 0), (8, .p 1), (4, .p 0), (3, .i n)], [(1, .cells [.i 0, .nils, .nils] 25), (0, .cells (mm W xs ys) 25)], 2⟩ [] trivial ?_
   refine en ?_
   refine an ?_
   refine xw_seq ?_
   refine rg [] 6 ⟨[(42, .f), (14, .i (c % 4294967296)), (13, .i (c / 4294967296 - 1)), (11, .i (a % 4294967296)), (10, .i (a / 4294967296 - 1)), (9, .i 0), (8, .p 1), (4, .p 0), (3, .i n)], [(1, .cells [.i 0, .nils, .nils] 25), (0, .cells (mm W xs ys) 25)], 2⟩ [True] ⟨trivial, trivial⟩ ?_
   refine cf ?_
   refine xw_skip ?_
   refine an ?_
   refine xw_seq ?_
   by_cases h2 : (a / 4294967296 - 1) = 0
   ·
    by_cases h3 : (c / 4294967296 - 1) = 0
    ·
     refine sreg hmix [([(1, .cells [.i 0, .nils, .nils] 25), (0, .cells (mm W xs ys) 25)], 2), ([(1, .cells (mm W (spl xs (c % 4294967296) ((xs.take ((((a % 4294967296) + n) : Int).toNat)).drop (((a % 4294967296) : Int).toNat))) ys) 25), (0, .cells (mm W xs ys) 25)], 2)] [14] [(1, [0]), (6, [4, 5]), (7, [4, 5, 6]), (11, [9, 10]), (12, [4, 5, 6, 7, 8, 9, 10, 11]), (13, [0, 1, 2, 3, 4, 5, 6, 7, 8, 9, 10, 11, 12]), (14, [0, 1, 2, 3, 4, 5, 6, 7, 8, 9, 10, 11, 12, 13]), (15, [0, 1, 2, 3, 4, 5, 6, 7, 8, 9, 10, 11, 12, 13, 14])] (by kernel_rfl) (by kernel_rfl) (by kernel_rfl) (by kernel_rfl) (by kernel_rfl) ?_
     refine sr [] 6 0 [(49, .loc 0 1), (48, .i (a / 4294967296 - 1)), (47, .i (c % 4294967296)), (46, .i (c / 4294967296 - 1)), (45, .agg (mm W xs ys)), (44, .agg (mm W xs ys)), (42, .f), (14, .i (c % 4294967296)), (13, .i (c / 4294967296 - 1)), (11, .i (a % 4294967296)), (10, .i (a / 4294967296 - 1)), (9, .i 0), (8, .p 1), (4, .p 0), (3, .i n)] [True, True, True, True, True, True] ⟨trivial, trivial, trivial, trivial, trivial, trivial, trivial⟩ ?_
     refine sseti 48 (k := .i64) (x := (a / 4294967296 - 1)) (y := 0) (by kernel_rfl) (by omega) ?_
     refine sr [(11, .i ((a % 4294967296) + n))] 7 6 [(56, .sl false 1 ((((m64 xs)).take (((a % 4294967296) + n) : Int).toNat).drop ((a % 4294967296) : Int).toNat)), (55, .i ((a % 4294967296) + n)), (54, .i n), (53, .i (a % 4294967296)), (52, .i (a % 4294967296)), (51, .sl false 1 (m64 xs)), (50, .loc 0 1), (48, .i 0), (49, .loc 0 1), (48, .i (a / 4294967296 - 1)), (47, .i (c % 4294967296)), (46, .i (c / 4294967296 - 1)), (45, .agg (mm W xs ys)), (44, .agg (mm W xs ys)), (42, .f), (14, .i (c % 4294967296)), (13, .i (c / 4294967296 - 1)), (11, .i (a % 4294967296)), (10, .i (a / 4294967296 - 1)), (9, .i 0), (8, .p 1), (4, .p 0), (3, .i n)] [(0 : Int) ≤ 0 ∧ 0 < ((2 : Nat) : Int), True, True, True, True, IntKind.i64.wrap ((a % 4294967296) + n) = ((a % 4294967296) + n), (0 : Int) ≤ (a % 4294967296) ∧ (a % 4294967296) ≤ ((a % 4294967296) + n) ∧ ((a % 4294967296) + n) ≤ ((((m64 xs)).length : Nat) : Int)] ⟨(by constructor <;> omega), trivial, trivial, trivial, trivial, i64_eq (by omega) (by omega), ⟨by omega, by omega, by first | omega | (simp only [len_st]; omega) | (simp; done) | (simp; omega) | (simp [len_st, len_stx, len_sty, len_zx, len_zy]; omega)⟩, trivial⟩ ?_
     refine ssets 56 (x := false) (z := 1) (L := ((((m64 xs)).take (((a % 4294967296) + n) : Int).toNat).drop ((a % 4294967296) : Int).toNat)) (L' := (m64 ((xs.take ((((a % 4294967296) + n) : Int).toNat)).drop (((a % 4294967296) : Int).toNat)))) (by kernel_rfl) cut_map ?_
     refine sc (wwithL_1 W xs ys (c / 4294967296 - 1) (c % 4294967296) ((xs.take ((((a % 4294967296) + n) : Int).toNat)).drop (((a % 4294967296) : Int).toNat)) ‹_› ‹_› ‹_› ‹_› ‹_› (by omega) (by omega) (by first | omega | assumption | rfl | (rw [len_zx]; assumption) | (rw [len_zy]; assumption) | exact U64s.zx (by assumption) _ _ | exact U64s.zy (by assumption) _ _ | exact U64s.rep _ | decide | (simp; done) | (simp; omega)) (by first | omega | assumption | rfl | (rw [len_zx]; assumption) | (rw [len_zy]; assumption) | exact U64s.zx (by assumption) _ _ | exact U64s.zy (by assumption) _ _ | exact U64s.rep _ | decide | (simp; done) | (simp; omega)) ‹_›) ?_
     refine sr [] 2 14 [(9, .i 0), (57, .agg (mm W (spl xs (c % 4294967296) ((xs.take ((((a % 4294967296) + n) : Int).toNat)).drop (((a % 4294967296) : Int).toNat))) ys)), (56, .sl false 1 (m64 ((xs.take ((((a % 4294967296) + n) : Int).toNat)).drop (((a % 4294967296) : Int).toNat)))), (56, .sl false 1 ((((m64 xs)).take (((a % 4294967296) + n) : Int).toNat).drop ((a % 4294967296) : Int).toNat)), (55, .i ((a % 4294967296) + n)), (54, .i n), (53, .i (a % 4294967296)), (52, .i (a % 4294967296)), (51, .sl false 1 (m64 xs)), (50, .loc 0 1), (48, .i 0), (49, .loc 0 1), (48, .i (a / 4294967296 - 1)), (47, .i (c % 4294967296)), (46, .i (c / 4294967296 - 1)), (45, .agg (mm W xs ys)), (44, .agg (mm W xs ys)), (42, .f), (14, .i (c % 4294967296)), (13, .i (c / 4294967296 - 1)), (11, .i (a % 4294967296)), (10, .i (a / 4294967296 - 1)), (9, .i 0), (8, .p 1), (4, .p 0), (3, .i n)] [True, ([(1, .cells (mm W (spl xs (c % 4294967296) ((xs.take ((((a % 4294967296) + n) : Int).toNat)).drop (((a % 4294967296) : Int).toNat))) ys) 25), (0, .cells (mm W xs ys) 25)] : Mem) = [(1, .cells (mm W (spl xs (c % 4294967296) ((xs.take ((((a % 4294967296) + n) : Int).toNat)).drop (((a % 4294967296) : Int).toNat))) ys) 25), (0, .cells (mm W xs ys) 25)], (2 : Nat) = 2, True] ⟨trivial, rfl, rfl, trivial, trivial⟩ ?_
     refine sen ?_
     refine an ?_
     refine xw_ret ?_
     exact br (.tup [.agg (mm W (spl xs (c % 4294967296) ((xs.take ((((a % 4294967296) + n) : Int).toNat)).drop (((a % 4294967296) : Int).toNat))) ys), .i 0]) (.tup [.agg (mm W (mvx xs ys a c n) (mvy xs ys a c n)), .i 0]) (wkd [(W : Int) = W, (false = true → false = true), (m64 (spl xs (c % 4294967296) ((xs.take ((((a % 4294967296) + n) : Int).toNat)).drop (((a % 4294967296) : Int).toNat)))) = (m64 (mvx xs ys a c n)), (false = true → false = true), (m64 ys) = (m64 (mvy xs ys a c n)), (0 : Int) = 0] (by kernel_rfl) ⟨rfl, id, (by first | rfl | exact congrArg _ (mvx_11 (by omega) (by omega)).symm | exact congrArg _ (mvx_12 (by omega) (by omega)).symm | exact congrArg _ (mvx_2 (by omega)).symm | exact congrArg _ (mvy_1 (by omega)).symm | exact congrArg _ (mvy_21 (by omega) (by omega)).symm | exact congrArg _ (mvy_22 (by omega) (by omega)).symm), id, (by first | rfl | exact congrArg _ (mvx_11 (by omega) (by omega)).symm | exact congrArg _ (mvx_12 (by omega) (by omega)).symm | exact congrArg _ (mvx_2 (by omega)).symm | exact congrArg _ (mvy_1 (by omega)).symm | exact congrArg _ (mvy_21 (by omega) (by omega)).symm | exact congrArg _ (mvy_22 (by omega) (by omega)).symm), rfl, trivial⟩) (Or.inl <| ⟨(by omega), (by omega), rfl⟩)
    ·
     refine sreg hmix [([(1, .cells [.i 0, .nils, .nils] 25), (0, .cells (mm W xs ys) 25)], 2), ([(1, .cells (mm W xs (spl ys (c % 4294967296) ((xs.take ((((a % 4294967296) + n) : Int).toNat)).drop (((a % 4294967296) : Int).toNat)))) 25), (0, .cells (mm W xs ys) 25)], 2)] [14] [(1, [0]), (6, [4, 5]), (7, [4, 5, 6]), (11, [9, 10]), (12, [4, 5, 6, 7, 8, 9, 10, 11]), (13, [0, 1, 2, 3, 4, 5, 6, 7, 8, 9, 10, 11, 12]), (14, [0, 1, 2, 3, 4, 5, 6, 7, 8, 9, 10, 11, 12, 13]), (15, [0, 1, 2, 3, 4, 5, 6, 7, 8, 9, 10, 11, 12, 13, 14])] (by kernel_rfl) (by kernel_rfl) (by kernel_rfl) (by kernel_rfl) (by kernel_rfl) ?_
     refine sr [] 6 0 [(49, .loc 0 1), (48, .i (a / 4294967296 - 1)), (47, .i (c % 4294967296)), (46, .i (c / 4294967296 - 1)), (45, .agg (mm W xs ys)), (44, .agg (mm W xs ys)), (42, .f), (14, .i (c % 4294967296)), (13, .i (c / 4294967296 - 1)), (11, .i (a % 4294967296)), (10, .i (a / 4294967296 - 1)), (9, .i 0), (8, .p 1), (4, .p 0), (3, .i n)] [True, True, True, True, True, True] ⟨trivial, trivial, trivial, trivial, trivial, trivial, trivial⟩ ?_
     refine sseti 48 (k := .i64) (x := (a / 4294967296 - 1)) (y := 0) (by kernel_rfl) (by omega) ?_
     refine sr [(11, .i ((a % 4294967296) + n))] 7 6 [(56, .sl false 1 ((((m64 xs)).take (((a % 4294967296) + n) : Int).toNat).drop ((a % 4294967296) : Int).toNat)), (55, .i ((a % 4294967296) + n)), (54, .i n), (53, .i (a % 4294967296)), (52, .i (a % 4294967296)), (51, .sl false 1 (m64 xs)), (50, .loc 0 1), (48, .i 0), (49, .loc 0 1), (48, .i (a / 4294967296 - 1)), (47, .i (c % 4294967296)), (46, .i (c / 4294967296 - 1)), (45, .agg (mm W xs ys)), (44, .agg (mm W xs ys)), (42, .f), (14, .i (c % 4294967296)), (13, .i (c / 4294967296 - 1)), (11, .i (a % 4294967296)), (10, .i (a / 4294967296 - 1)), (9, .i 0), (8, .p 1), (4, .p 0), (3, .i n)] [(0 : Int) ≤ 0 ∧ 0 < ((2 : Nat) : Int), True, True, True, True, IntKind.i64.wrap ((a % 4294967296) + n) = ((a % 4294967296) + n), (0 : Int) ≤ (a % 4294967296) ∧ (a % 4294967296) ≤ ((a % 4294967296) + n) ∧ ((a % 4294967296) + n) ≤ ((((m64 xs)).length : Nat) : Int)] ⟨(by constructor <;> omega), trivial, trivial, trivial, trivial, i64_eq (by omega) (by omega), ⟨by omega, by omega, by first | omega | (simp only [len_st]; omega) | (simp; done) | (simp; omega) | (simp [len_st, len_stx, len_sty, len_zx, len_zy]; omega)⟩, trivial⟩ ?_
     refine ssets 56 (x := false) (z := 1) (L := ((((m64 xs)).take (((a % 4294967296) + n) : Int).toNat).drop ((a % 4294967296) : Int).toNat)) (L' := (m64 ((xs.take ((((a % 4294967296) + n) : Int).toNat)).drop (((a % 4294967296) : Int).toNat)))) (by kernel_rfl) cut_map ?_
     refine sc (wwithL_2 W xs ys (c / 4294967296 - 1) (c % 4294967296) ((xs.take ((((a % 4294967296) + n) : Int).toNat)).drop (((a % 4294967296) : Int).toNat)) ‹_› ‹_› ‹_› ‹_› ‹_› (by omega) (by omega) (by first | omega | assumption | rfl | (rw [len_zx]; assumption) | (rw [len_zy]; assumption) | exact U64s.zx (by assumption) _ _ | exact U64s.zy (by assumption) _ _ | exact U64s.rep _ | decide | (simp; done) | (simp; omega)) (by first | omega | assumption | rfl | (rw [len_zx]; assumption) | (rw [len_zy]; assumption) | exact U64s.zx (by assumption) _ _ | exact U64s.zy (by assumption) _ _ | exact U64s.rep _ | decide | (simp; done) | (simp; omega)) (by omega)) ?_
     refine sr [] 2 14 [(9, .i 0), (57, .agg (mm W xs (spl ys (c % 4294967296) ((xs.take ((((a % 4294967296) + n) : Int).toNat)).drop (((a % 4294967296) : Int).toNat))))), (56, .sl false 1 (m64 ((xs.take ((((a % 4294967296) + n) : Int).toNat)).drop (((a % 4294967296) : Int).toNat)))), (56, .sl false 1 ((((m64 xs)).take (((a % 4294967296) + n) : Int).toNat).drop ((a % 4294967296) : Int).toNat)), (55, .i ((a % 4294967296) + n)), (54, .i n), (53, .i (a % 4294967296)), (52, .i (a % 4294967296)), (51, .sl false 1 (m64 xs)), (50, .loc 0 1), (48, .i 0), (49, .loc 0 1), (48, .i (a / 4294967296 - 1)), (47, .i (c % 4294967296)), (46, .i (c / 4294967296 - 1)), (45, .agg (mm W xs ys)), (44, .agg (mm W xs ys)), (42, .f), (14, .i (c % 4294967296)), (13, .i (c / 4294967296 - 1)), (11, .i (a % 4294967296)), (10, .i (a / 4294967296 - 1)), (9, .i 0), (8, .p 1), (4, .p 0), (3, .i n)] [True, ([(1, .cells (mm W xs (spl ys (c % 4294967296) ((xs.take ((((a % 4294967296) + n) : Int).toNat)).drop (((a % 4294967296) : Int).toNat)))) 25), (0, .cells (mm W xs ys) 25)] : Mem) = [(1, .cells (mm W xs (spl ys (c % 4294967296) ((xs.take ((((a % 4294967296) + n) : Int).toNat)).drop (((a % 4294967296) : Int).toNat)))) 25), (0, .cells (mm W xs ys) 25)], (2 : Nat) = 2, True] ⟨trivial, rfl, rfl, trivial, trivial⟩ ?_
     refine sen ?_
     refine an ?_
     refine xw_ret ?_
     exact br (.tup [.agg (mm W xs (spl ys (c % 4294967296) ((xs.take ((((a % 4294967296) + n) : Int).toNat)).drop (((a % 4294967296) : Int).toNat)))), .i 0]) (.tup [.agg (mm W (mvx xs ys a c n) (mvy xs ys a c n)), .i 0]) (wkd [(W : Int) = W, (false = true → false = true), (m64 xs) = (m64 (mvx xs ys a c n)), (false = true → false = true), (m64 (spl ys (c % 4294967296) ((xs.take ((((a % 4294967296) + n) : Int).toNat)).drop (((a % 4294967296) : Int).toNat)))) = (m64 (mvy xs ys a c n)), (0 : Int) = 0] (by kernel_rfl) ⟨rfl, id, (by first | rfl | exact congrArg _ (mvx_11 (by omega) (by omega)).symm | exact congrArg _ (mvx_12 (by omega) (by omega)).symm | exact congrArg _ (mvx_2 (by omega)).symm | exact congrArg _ (mvy_1 (by omega)).symm | exact congrArg _ (mvy_21 (by omega) (by omega)).symm | exact congrArg _ (mvy_22 (by omega) (by omega)).symm), id, (by first | rfl | exact congrArg _ (mvx_11 (by omega) (by omega)).symm | exact congrArg _ (mvx_12 (by omega) (by omega)).symm | exact congrArg _ (mvx_2 (by omega)).symm | exact congrArg _ (mvy_1 (by omega)).symm | exact congrArg _ (mvy_21 (by omega) (by omega)).symm | exact congrArg _ (mvy_22 (by omega) (by omega)).symm), rfl, trivial⟩) (Or.inl <| ⟨(by omega), (by omega), rfl⟩)
   ·
    by_cases h3 : (c / 4294967296 - 1) = 0
    ·
     refine sreg hmix [([(1, .cells [.i 0, .nils, .nils] 25), (0, .cells (mm W xs ys) 25)], 2), ([(1, .cells (mm W (spl xs (c % 4294967296) ((ys.take ((((a % 4294967296) + n) : Int).toNat)).drop (((a % 4294967296) : Int).toNat))) ys) 25), (0, .cells (mm W xs ys) 25)], 2)] [14] [(1, [0]), (6, [4, 5]), (7, [4, 5, 6]), (11, [9, 10]), (12, [4, 5, 6, 7, 8, 9, 10, 11]), (13, [0, 1, 2, 3, 4, 5, 6, 7, 8, 9, 10, 11, 12]), (14, [0, 1, 2, 3, 4, 5, 6, 7, 8, 9, 10, 11, 12, 13]), (15, [0, 1, 2, 3, 4, 5, 6, 7, 8, 9, 10, 11, 12, 13, 14])] (by kernel_rfl) (by kernel_rfl) (by kernel_rfl) (by kernel_rfl) (by kernel_rfl) ?_
     refine sr [] 6 0 [(49, .loc 0 1), (48, .i (a / 4294967296 - 1)), (47, .i (c % 4294967296)), (46, .i (c / 4294967296 - 1)), (45, .agg (mm W xs ys)), (44, .agg (mm W xs ys)), (42, .f), (14, .i (c % 4294967296)), (13, .i (c / 4294967296 - 1)), (11, .i (a % 4294967296)), (10, .i (a / 4294967296 - 1)), (9, .i 0), (8, .p 1), (4, .p 0), (3, .i n)] [True, True, True, True, True, True] ⟨trivial, trivial, trivial, trivial, trivial, trivial, trivial⟩ ?_
     refine sseti 48 (k := .i64) (x := (a / 4294967296 - 1)) (y := 1) (by kernel_rfl) (by omega) ?_
     refine sr [(11, .i ((a % 4294967296) + n))] 7 6 [(56, .sl false 1 ((((m64 ys)).take (((a % 4294967296) + n) : Int).toNat).drop ((a % 4294967296) : Int).toNat)), (55, .i ((a % 4294967296) + n)), (54, .i n), (53, .i (a % 4294967296)), (52, .i (a % 4294967296)), (51, .sl false 1 (m64 ys)), (50, .loc 0 2), (48, .i 1), (49, .loc 0 1), (48, .i (a / 4294967296 - 1)), (47, .i (c % 4294967296)), (46, .i (c / 4294967296 - 1)), (45, .agg (mm W xs ys)), (44, .agg (mm W xs ys)), (42, .f), (14, .i (c % 4294967296)), (13, .i (c / 4294967296 - 1)), (11, .i (a % 4294967296)), (10, .i (a / 4294967296 - 1)), (9, .i 0), (8, .p 1), (4, .p 0), (3, .i n)] [(0 : Int) ≤ 1 ∧ 1 < ((2 : Nat) : Int), True, True, True, True, IntKind.i64.wrap ((a % 4294967296) + n) = ((a % 4294967296) + n), (0 : Int) ≤ (a % 4294967296) ∧ (a % 4294967296) ≤ ((a % 4294967296) + n) ∧ ((a % 4294967296) + n) ≤ ((((m64 ys)).length : Nat) : Int)] ⟨(by constructor <;> omega), trivial, trivial, trivial, trivial, i64_eq (by omega) (by omega), ⟨by omega, by omega, by first | omega | (simp only [len_st]; omega) | (simp; done) | (simp; omega) | (simp [len_st, len_stx, len_sty, len_zx, len_zy]; omega)⟩, trivial⟩ ?_
     refine ssets 56 (x := false) (z := 1) (L := ((((m64 ys)).take (((a % 4294967296) + n) : Int).toNat).drop ((a % 4294967296) : Int).toNat)) (L' := (m64 ((ys.take ((((a % 4294967296) + n) : Int).toNat)).drop (((a % 4294967296) : Int).toNat)))) (by kernel_rfl) cut_map ?_
     refine sc (wwithL_1 W xs ys (c / 4294967296 - 1) (c % 4294967296) ((ys.take ((((a % 4294967296) + n) : Int).toNat)).drop (((a % 4294967296) : Int).toNat)) ‹_› ‹_› ‹_› ‹_› ‹_› (by omega) (by omega) (by first | omega | assumption | rfl | (rw [len_zx]; assumption) | (rw [len_zy]; assumption) | exact U64s.zx (by assumption) _ _ | exact U64s.zy (by assumption) _ _ | exact U64s.rep _ | decide | (simp; done) | (simp; omega)) (by first | omega | assumption | rfl | (rw [len_zx]; assumption) | (rw [len_zy]; assumption) | exact U64s.zx (by assumption) _ _ | exact U64s.zy (by assumption) _ _ | exact U64s.rep _ | decide | (simp; done) | (simp; omega)) ‹_›) ?_
     refine sr [] 2 14 [(9, .i 0), (57, .agg (mm W (spl xs (c % 4294967296) ((ys.take ((((a % 4294967296) + n) : Int).toNat)).drop (((a % 4294967296) : Int).toNat))) ys)), (56, .sl false 1 (m64 ((ys.take ((((a % 4294967296) + n) : Int).toNat)).drop (((a % 4294967296) : Int).toNat)))), (56, .sl false 1 ((((m64 ys)).take (((a % 4294967296) + n) : Int).toNat).drop ((a % 4294967296) : Int).toNat)), (55, .i ((a % 4294967296) + n)), (54, .i n), (53, .i (a % 4294967296)), (52, .i (a % 4294967296)), (51, .sl false 1 (m64 ys)), (50, .loc 0 2), (48, .i 1), (49, .loc 0 1), (48, .i (a / 4294967296 - 1)), (47, .i (c % 4294967296)), (46, .i (c / 4294967296 - 1)), (45, .agg (mm W xs ys)), (44, .agg (mm W xs ys)), (42, .f), (14, .i (c % 4294967296)), (13, .i (c / 4294967296 - 1)), (11, .i (a % 4294967296)), (10, .i (a / 4294967296 - 1)), (9, .i 0), (8, .p 1), (4, .p 0), (3, .i n)] [True, ([(1, .cells (mm W (spl xs (c % 4294967296) ((ys.take ((((a % 4294967296) + n) : Int).toNat)).drop (((a % 4294967296) : Int).toNat))) ys) 25), (0, .cells (mm W xs ys) 25)] : Mem) = [(1, .cells (mm W (spl xs (c % 4294967296) ((ys.take ((((a % 4294967296) + n) : Int).toNat)).drop (((a % 4294967296) : Int).toNat))) ys) 25), (0, .cells (mm W xs ys) 25)], (2 : Nat) = 2, True] ⟨trivial, rfl, rfl, trivial, trivial⟩ ?_
     refine sen ?_
     refine an ?_
     refine xw_ret ?_
     exact br (.tup [.agg (mm W (spl xs (c % 4294967296) ((ys.take ((((a % 4294967296) + n) : Int).toNat)).drop (((a % 4294967296) : Int).toNat))) ys), .i 0]) (.tup [.agg (mm W (mvx xs ys a c n) (mvy xs ys a c n)), .i 0]) (wkd [(W : Int) = W, (false = true → false = true), (m64 (spl xs (c % 4294967296) ((ys.take ((((a % 4294967296) + n) : Int).toNat)).drop (((a % 4294967296) : Int).toNat)))) = (m64 (mvx xs ys a c n)), (false = true → false = true), (m64 ys) = (m64 (mvy xs ys a c n)), (0 : Int) = 0] (by kernel_rfl) ⟨rfl, id, (by first | rfl | exact congrArg _ (mvx_11 (by omega) (by omega)).symm | exact congrArg _ (mvx_12 (by omega) (by omega)).symm | exact congrArg _ (mvx_2 (by omega)).symm | exact congrArg _ (mvy_1 (by omega)).symm | exact congrArg _ (mvy_21 (by omega) (by omega)).symm | exact congrArg _ (mvy_22 (by omega) (by omega)).symm), id, (by first | rfl | exact congrArg _ (mvx_11 (by omega) (by omega)).symm | exact congrArg _ (mvx_12 (by omega) (by omega)).symm | exact congrArg _ (mvx_2 (by omega)).symm | exact congrArg _ (mvy_1 (by omega)).symm | exact congrArg _ (mvy_21 (by omega) (by omega)).symm | exact congrArg _ (mvy_22 (by omega) (by omega)).symm), rfl, trivial⟩) (Or.inl <| ⟨(by omega), (by omega), rfl⟩)
    ·
     refine sreg hmix [([(1, .cells [.i 0, .nils, .nils] 25), (0, .cells (mm W xs ys) 25)], 2), ([(1, .cells (mm W xs (spl ys (c % 4294967296) ((ys.take ((((a % 4294967296) + n) : Int).toNat)).drop (((a % 4294967296) : Int).toNat)))) 25), (0, .cells (mm W xs ys) 25)], 2)] [14] [(1, [0]), (6, [4, 5]), (7, [4, 5, 6]), (11, [9, 10]), (12, [4, 5, 6, 7, 8, 9, 10, 11]), (13, [0, 1, 2, 3, 4, 5, 6, 7, 8, 9, 10, 11, 12]), (14, [0, 1, 2, 3, 4, 5, 6, 7, 8, 9, 10, 11, 12, 13]), (15, [0, 1, 2, 3, 4, 5, 6, 7, 8, 9, 10, 11, 12, 13, 14])] (by kernel_rfl) (by kernel_rfl) (by kernel_rfl) (by kernel_rfl) (by kernel_rfl) ?_
     refine sr [] 6 0 [(49, .loc 0 1), (48, .i (a / 4294967296 - 1)), (47, .i (c % 4294967296)), (46, .i (c / 4294967296 - 1)), (45, .agg (mm W xs ys)), (44, .agg (mm W xs ys)), (42, .f), (14, .i (c % 4294967296)), (13, .i (c / 4294967296 - 1)), (11, .i (a % 4294967296)), (10, .i (a / 4294967296 - 1)), (9, .i 0), (8, .p 1), (4, .p 0), (3, .i n)] [True, True, True, True, True, True] ⟨trivial, trivial, trivial, trivial, trivial, trivial, trivial⟩ ?_
     refine sseti 48 (k := .i64) (x := (a / 4294967296 - 1)) (y := 1) (by kernel_rfl) (by omega) ?_
     refine sr [(11, .i ((a % 4294967296) + n))] 7 6 [(56, .sl false 1 ((((m64 ys)).take (((a % 4294967296) + n) : Int).toNat).drop ((a % 4294967296) : Int).toNat)), (55, .i ((a % 4294967296) + n)), (54, .i n), (53, .i (a % 4294967296)), (52, .i (a % 4294967296)), (51, .sl false 1 (m64 ys)), (50, .loc 0 2), (48, .i 1), (49, .loc 0 1), (48, .i (a / 4294967296 - 1)), (47, .i (c % 4294967296)), (46, .i (c / 4294967296 - 1)), (45, .agg (mm W xs ys)), (44, .agg (mm W xs ys)), (42, .f), (14, .i (c % 4294967296)), (13, .i (c / 4294967296 - 1)), (11, .i (a % 4294967296)), (10, .i (a / 4294967296 - 1)), (9, .i 0), (8, .p 1), (4, .p 0), (3, .i n)] [(0 : Int) ≤ 1 ∧ 1 < ((2 : Nat) : Int), True, True, True, True, IntKind.i64.wrap ((a % 4294967296) + n) = ((a % 4294967296) + n), (0 : Int) ≤ (a % 4294967296) ∧ (a % 4294967296) ≤ ((a % 4294967296) + n) ∧ ((a % 4294967296) + n) ≤ ((((m64 ys)).length : Nat) : Int)] ⟨(by constructor <;> omega), trivial, trivial, trivial, trivial, i64_eq (by omega) (by omega), ⟨by omega, by omega, by first | omega | (simp only [len_st]; omega) | (simp; done) | (simp; omega) | (simp [len_st, len_stx, len_sty, len_zx, len_zy]; omega)⟩, trivial⟩ ?_
     refine ssets 56 (x := false) (z := 1) (L := ((((m64 ys)).take (((a % 4294967296) + n) : Int).toNat).drop ((a % 4294967296) : Int).toNat)) (L' := (m64 ((ys.take ((((a % 4294967296) + n) : Int).toNat)).drop (((a % 4294967296) : Int).toNat)))) (by kernel_rfl) cut_map ?_
     refine sc (wwithL_2 W xs ys (c / 4294967296 - 1) (c % 4294967296) ((ys.take ((((a % 4294967296) + n) : Int).toNat)).drop (((a % 4294967296) : Int).toNat)) ‹_› ‹_› ‹_› ‹_› ‹_› (by omega) (by omega) (by first | omega | assumption | rfl | (rw [len_zx]; assumption) | (rw [len_zy]; assumption) | exact U64s.zx (by assumption) _ _ | exact U64s.zy (by assumption) _ _ | exact U64s.rep _ | decide | (simp; done) | (simp; omega)) (by first | omega | assumption | rfl | (rw [len_zx]; assumption) | (rw [len_zy]; assumption) | exact U64s.zx (by assumption) _ _ | exact U64s.zy (by assumption) _ _ | exact U64s.rep _ | decide | (simp; done) | (simp; omega)) (by omega)) ?_
     refine sr [] 2 14 [(9, .i 0), (57, .agg (mm W xs (spl ys (c % 4294967296) ((ys.take ((((a % 4294967296) + n) : Int).toNat)).drop (((a % 4294967296) : Int).toNat))))), (56, .sl false 1 (m64 ((ys.take ((((a % 4294967296) + n) : Int).toNat)).drop (((a % 4294967296) : Int).toNat)))), (56, .sl false 1 ((((m64 ys)).take (((a % 4294967296) + n) : Int).toNat).drop ((a % 4294967296) : Int).toNat)), (55, .i ((a % 4294967296) + n)), (54, .i n), (53, .i (a % 4294967296)), (52, .i (a % 4294967296)), (51, .sl false 1 (m64 ys)), (50, .loc 0 2), (48, .i 1), (49, .loc 0 1), (48, .i (a / 4294967296 - 1)), (47, .i (c % 4294967296)), (46, .i (c / 4294967296 - 1)), (45, .agg (mm W xs ys)), (44, .agg (mm W xs ys)), (42, .f), (14, .i (c % 4294967296)), (13, .i (c / 4294967296 - 1)), (11, .i (a % 4294967296)), (10, .i (a / 4294967296 - 1)), (9, .i 0), (8, .p 1), (4, .p 0), (3, .i n)] [True, ([(1, .cells (mm W xs (spl ys (c % 4294967296) ((ys.take ((((a % 4294967296) + n) : Int).toNat)).drop (((a % 4294967296) : Int).toNat)))) 25), (0, .cells (mm W xs ys) 25)] : Mem) = [(1, .cells (mm W xs (spl ys (c % 4294967296) ((ys.take ((((a % 4294967296) + n) : Int).toNat)).drop (((a % 4294967296) : Int).toNat)))) 25), (0, .cells (mm W xs ys) 25)], (2 : Nat) = 2, True] ⟨trivial, rfl, rfl, trivial, trivial⟩ ?_
     refine sen ?_
     refine an ?_
     refine xw_ret ?_
     exact br (.tup [.agg (mm W xs (spl ys (c % 4294967296) ((ys.take ((((a % 4294967296) + n) : Int).toNat)).drop (((a % 4294967296) : Int).toNat)))), .i 0]) (.tup [.agg (mm W (mvx xs ys a c n) (mvy xs ys a c n)), .i 0]) (wkd [(W : Int) = W, (false = true → false = true), (m64 xs) = (m64 (mvx xs ys a c n)), (false = true → false = true), (m64 (spl ys (c % 4294967296) ((ys.take ((((a % 4294967296) + n) : Int).toNat)).drop (((a % 4294967296) : Int).toNat)))) = (m64 (mvy xs ys a c n)), (0 : Int) = 0] (by kernel_rfl) ⟨rfl, id, (by first | rfl | exact congrArg _ (mvx_11 (by omega) (by omega)).symm | exact congrArg _ (mvx_12 (by omega) (by omega)).symm | exact congrArg _ (mvx_2 (by omega)).symm | exact congrArg _ (mvy_1 (by omega)).symm | exact congrArg _ (mvy_21 (by omega) (by omega)).symm | exact congrArg _ (mvy_22 (by omega) (by omega)).symm), id, (by first | rfl | exact congrArg _ (mvx_11 (by omega) (by omega)).symm | exact congrArg _ (mvx_12 (by omega) (by omega)).symm | exact congrArg _ (mvx_2 (by omega)).symm | exact congrArg _ (mvy_1 (by omega)).symm | exact congrArg _ (mvy_21 (by omega) (by omega)).symm | exact congrArg _ (mvy_22 (by omega) (by omega)).symm), rfl, trivial⟩) (Or.inl <| ⟨(by omega), (by omega), rfl⟩)
  ·
   refine pc (wthere_2 W xs ys c n ‹_› ‹_› ‹_› ‹_› ‹_› ‹_› (by omega) (by omega)) ?_
   refine rk [] 7 5 ⟨[(15, .f), (14, .i 0), (13, .i 0), (12, .t), (11, .i (a % 4294967296)), (10, .i (a / 4294967296 - 1)), (9, .i 0), (8, .p 1), (4, .p 0), (3, .i n)], [(1, .cells [.i 0, .nils, .nils] 25), (0, .cells (mm W xs ys) 25)], 2⟩ [] trivial ?_
   refine en ?_
   refine an ?_
   refine xw_seq ?_
   refine rg [] 6 ⟨[(42, .t), (14, .i 0), (13, .i 0), (11, .i (a % 4294967296)), (10, .i (a / 4294967296 - 1)), (9, .i 0), (8, .p 1), (4, .p 0), (3, .i n)], [(1, .cells [.i 0, .nils, .nils] 25), (0, .cells (mm W xs ys) 25)], 2⟩ [True] ⟨trivial, trivial⟩ ?_
   refine ct ?_
   refine rg [] 3 ⟨[(9, .i 2), (14, .i 0), (13, .i 0), (11, .i (a % 4294967296)), (10, .i (a / 4294967296 - 1)), (8, .p 1), (4, .p 0), (3, .i n)], [(1, .cells (mm W xs ys) 25), (0, .cells (mm W xs ys) 25)], 2⟩ [True, True] ⟨trivial, trivial, trivial⟩ ?_
   refine xw_ret ?_
   refine an_ret ?_
   exact bs (.tup [.agg (mm W xs ys), .i 2]) (Or.inr <| ⟨(by omega), rfl⟩)
 ·
  refine pc (wthere_2 W xs ys a n ‹_› ‹_› ‹_› ‹_› ‹_› ‹_› (by omega) (by omega)) ?_
  refine rk [] 7 5 ⟨[(12, .f), (11, .i 0), (10, .i 0), (9, .i 0), (8, .p 1), (4, .p 0), (2, .u c), (3, .i n)], [(1, .cells [.i 0, .nils, .nils] 25), (0, .cells (mm W xs ys) 25)], 2⟩ [] trivial ?_
  refine en ?_
  refine an ?_
  refine xw_seq ?_
  refine reg ?_
  refine rk [] 4 0 ⟨[(32, .i n), (31, .u c), (30, .agg (mm W xs ys)), (12, .f), (11, .i 0), (10, .i 0), (9, .i 0), (8, .p 1), (4, .p 0), (3, .i n)], [(1, .cells [.i 0, .nils, .nils] 25), (0, .cells (mm W xs ys) 25)], 2⟩ [True] ⟨trivial, trivial⟩ ?_
  by_cases h1 : 1 ≤ c / 4294967296 ∧ c / 4294967296 ≤ 2 ∧ c % 4294967296 < W ∧ 0 ≤ n ∧ c % 4294967296 + n ≤ W
  ·
   refine pc (wthere_1 W xs ys c n ‹_› ‹_› ‹_› ‹_› ‹_› ‹_› (by omega) (by omega)) ?_
   refine rk [] 7 5 ⟨[(15, .t), (14, .i (c % 4294967296)), (13, .i (c / 4294967296 - 1)), (12, .f), (11, .i 0), (10, .i 0), (9, .i 0), (8, .p 1), (4, .p 0), (3, .i n)], [(1, .cells [.i 0, .nils, .nils] 25), (0, .cells (mm W xs ys) 25)], 2⟩ [] trivial ?_
   refine en ?_
   refine an ?_
   refine xw_seq ?_
   refine rg [] 6 ⟨[(42, .t), (14, .i (c % 4294967296)), (13, .i (c / 4294967296 - 1)), (11, .i 0), (10, .i 0), (9, .i 0), (8, .p 1), (4, .p 0), (3, .i n)], [(1, .cells [.i 0, .nils, .nils] 25), (0, .cells (mm W xs ys) 25)], 2⟩ [True] ⟨trivial, trivial⟩ ?_
   refine ct ?_
   refine rg [] 3 ⟨[(9, .i 2), (14, .i (c % 4294967296)), (13, .i (c / 4294967296 - 1)), (11, .i 0), (10, .i 0), (8, .p 1), (4, .p 0), (3, .i n)], [(1, .cells (mm W xs ys) 25), (0, .cells (mm W xs ys) 25)], 2⟩ [True, True] ⟨trivial, trivial, trivial⟩ ?_
   refine xw_ret ?_
   refine an_ret ?_
   exact bs (.tup [.agg (mm W xs ys), .i 2]) (Or.inr <| ⟨(by omega), rfl⟩)
  ·
   refine pc (wthere_2 W xs ys c n ‹_› ‹_› ‹_› ‹_› ‹_› ‹_› (by omega) (by omega)) ?_
   refine rk [] 7 5 ⟨[(15, .f), (14, .i 0), (13, .i 0), (12, .f), (11, .i 0), (10, .i 0), (9, .i 0), (8, .p 1), (4, .p 0), (3, .i n)], [(1, .cells [.i 0, .nils, .nils] 25), (0, .cells (mm W xs ys) 25)], 2⟩ [] trivial ?_
   refine en ?_
   refine an ?_
   refine xw_seq ?_
   refine rg [] 6 ⟨[(42, .t), (14, .i 0), (13, .i 0), (11, .i 0), (10, .i 0), (9, .i 0), (8, .p 1), (4, .p 0), (3, .i n)], [(1, .cells [.i 0, .nils, .nils] 25), (0, .cells (mm W xs ys) 25)], 2⟩ [True] ⟨trivial, trivial⟩ ?_
   refine ct ?_
   refine rg [] 3 ⟨[(9, .i 2), (14, .i 0), (13, .i 0), (11, .i 0), (10, .i 0), (8, .p 1), (4, .p 0), (3, .i n)], [(1, .cells (mm W xs ys) 25), (0, .cells (mm W xs ys) 25)], 2⟩ [True, True] ⟨trivial, trivial, trivial⟩ ?_
   refine xw_ret ?_
   refine an_ret ?_
   exact bs (.tup [.agg (mm W xs ys), .i 2]) (Or.inr <| ⟨(by omega), rfl⟩)

theorem amove_1 (W : Int) (xs ys : List Int) (a c n : Int) (hp0 : 16 ≤ W ∧ W ≤ 4096) (hp1 : (xs.length : Int) = W) (hp2 : (ys.length : Int) = W) (hp3 : U64s xs) (hp4 : U64s ys) (hp5 : 0 ≤ a ∧ a ≤ 18446744073709551615) (hp6 : 0 ≤ c ∧ c ≤ 18446744073709551615) (hp7 : 1 ≤ n ∧ n ≤ 4096) (hp8 : 1 ≤ a / 4294967296 ∧ a / 4294967296 ≤ 2 ∧ a % 4294967296 + n ≤ W) (hp9 : 1 ≤ c / 4294967296 ∧ c / 4294967296 ≤ 2 ∧ c % 4294967296 + n ≤ W) : Pub Try.prog 56 [.agg (mm W xs ys), .u a, .u c, .i n] (fun rv => rv = .tup [.agg (mm W (mvx xs ys a c n) (mvy xs ys a c n)), .i 0]) := by
  refine (amove W xs ys a c n hp0 hp1 hp2 hp3 hp4 hp5 hp6 hp7).mono ?_
  rintro _ (⟨g0, g1, rfl⟩ | ⟨g0, rfl⟩)
  all_goals first | rfl | (exfalso; first | omega | grind)

theorem rmove (W : Int) (xs ys : List Int) (a c n : Int) (hp0 : 16 ≤ W ∧ W ≤ 4096) (hp1 : (xs.length : Int) = W) (hp2 : (ys.length : Int) = W) (hp3 : U64s xs) (hp4 : U64s ys) (hp5 : 0 ≤ a ∧ a ≤ 18446744073709551615) (hp6 : 0 ≤ c ∧ c ≤ 18446744073709551615) (hp7 : 1 ≤ n ∧ n ≤ 4096) : Pub Try.prog 32 [.agg (mm W xs ys), .u a, .u c, .i n] (fun rv => ((1 ≤ a / 4294967296 ∧ a / 4294967296 ≤ 2 ∧ a % 4294967296 + n ≤ W) ∧ (1 ≤ c / 4294967296 ∧ c / 4294967296 ≤ 2 ∧ c % 4294967296 + n ≤ W) ∧ rv = .tup [.agg (mm W (mvx xs ys a c n) (mvy xs ys a c n)), .i 0]) ∨ ((¬ ((1 ≤ a / 4294967296 ∧ a / 4294967296 ≤ 2 ∧ a % 4294967296 + n ≤ W) ∧ (1 ≤ c / 4294967296 ∧ c / 4294967296 ≤ 2 ∧ c % 4294967296 + n ≤ W))) ∧ rv = .tup [.agg (mm W xs ys), .i 2])) := by
 refine pub_of TT_ok Try.func32 rfl (by decide) (Nat.le_of_ble_eq_true (by kernel_rfl)) (by kernel_rfl) ?_
 refine rg [] 3 ⟨[(9, .i 0), (8, .p 1), (4, .p 0), (1, .u a), (2, .u c), (3, .i n)], [(1, .cells [.i 0, .nils, .nils] 25), (0, .cells (mm W xs ys) 25)], 2⟩ [] trivial ?_
 refine xw_seq ?_
 refine rg [(1, .f)] 2 ⟨[(25, .f), (9, .i 0), (8, .p 1), (4, .p 0), (1, .u a), (2, .u c), (3, .i n)], [(1, .cells [.i 0, .nils, .nils] 25), (0, .cells (mm W xs ys) 25)], 2⟩ [(decide (n < 0)) = false] ⟨decide_eq_false (by omega), trivial⟩ ?_
 refine cf ?_
 refine xw_skip ?_
 refine an ?_
 refine xw_seq ?_
 refine reg ?_
 refine rk [] 2 0 ⟨[(28, .u a), (27, .agg (mm W xs ys)), (9, .i 0), (8, .p 1), (4, .p 0), (1, .u a), (2, .u c), (3, .i n)], [(1, .cells [.i 0, .nils, .nils] 25), (0, .cells (mm W xs ys) 25)], 2⟩ [True] ⟨trivial, trivial⟩ ?_
 by_cases h0 : 1 ≤ a / 4294967296 ∧ a / 4294967296 ≤ 2 ∧ a % 4294967296 < W
 ·
  refine pc (rthere_1 W xs ys a ‹_› ‹_› ‹_› ‹_› ‹_› ‹_› (by omega)) ?_
  refine rk [] 1 3 ⟨[(10, .t), (9, .i 0), (8, .p 1), (4, .p 0), (1, .u a), (2, .u c), (3, .i n)], [(1, .cells [.i 0, .nils, .nils] 25), (0, .cells (mm W xs ys) 25)], 2⟩ [] trivial ?_
  refine en ?_
  refine an ?_
  refine xw_seq ?_
  refine reg ?_
  refine rk [] 2 0 ⟨[(31, .u c), (30, .agg (mm W xs ys)), (10, .t), (9, .i 0), (8, .p 1), (4, .p 0), (1, .u a), (2, .u c), (3, .i n)], [(1, .cells [.i 0, .nils, .nils] 25), (0, .cells (mm W xs ys) 25)], 2⟩ [True] ⟨trivial, trivial⟩ ?_
  by_cases h1 : 1 ≤ c / 4294967296 ∧ c / 4294967296 ≤ 2 ∧ c % 4294967296 < W
  ·
   refine pc (rthere_1 W xs ys c ‹_› ‹_› ‹_› ‹_› ‹_› ‹_› (by omega)) ?_
   refine rk [] 1 3 ⟨[(11, .t), (10, .t), (9, .i 0), (8, .p 1), (4, .p 0), (1, .u a), (2, .u c), (3, .i n)], [(1, .cells [.i 0, .nils, .nils] 25), (0, .cells (mm W xs ys) 25)], 2⟩ [] trivial ?_
   refine en ?_
   refine an ?_
   refine xw_seq ?_
   refine rg [] 6 ⟨[(38, .f), (9, .i 0), (8, .p 1), (4, .p 0), (1, .u a), (2, .u c), (3, .i n)], [(1, .cells [.i 0, .nils, .nils] 25), (0, .cells (mm W xs ys) 25)], 2⟩ [True] ⟨trivial, trivial⟩ ?_
   refine cf ?_
   refine xw_skip ?_
   refine an ?_
   refine xw_seq ?_
   refine reg ?_
   refine rk [] 1 0 ⟨[(41, .u a), (9, .i 0), (8, .p 1), (4, .p 0), (1, .u a), (2, .u c), (3, .i n)], [(1, .cells [.i 0, .nils, .nils] 25), (0, .cells (mm W xs ys) 25)], 2⟩ [] trivial ?_
   refine pc (rwhere_1 a ‹_› (by omega)) ?_
   refine rk [] 7 2 ⟨[(13, .i (a % 4294967296)), (9, .i 0), (8, .p 1), (4, .p 0), (1, .u a), (2, .u c), (3, .i n)], [(1, .cells [.i 0, .nils, .nils] 25), (0, .cells (mm W xs ys) 25)], 2⟩ [] trivial ?_
   refine en ?_
   refine an ?_
   refine xw_seq ?_
   refine reg ?_
   refine rk [] 1 0 ⟨[(47, .u c), (13, .i (a % 4294967296)), (9, .i 0), (8, .p 1), (4, .p 0), (1, .u a), (2, .u c), (3, .i n)], [(1, .cells [.i 0, .nils, .nils] 25), (0, .cells (mm W xs ys) 25)], 2⟩ [] trivial ?_
   refine pc (rwhere_1 c ‹_› (by omega)) ?_
   refine rk [] 7 2 ⟨[(16, .i (c % 4294967296)), (13, .i (a % 4294967296)), (9, .i 0), (8, .p 1), (4, .p 0), (1, .u a), (2, .u c), (3, .i n)], [(1, .cells [.i 0, .nils, .nils] 25), (0, .cells (mm W xs ys) 25)], 2⟩ [] trivial ?_
   refine en ?_
   refine an ?_
   refine xw_seq ?_
   refine xw_seq ?_
   refine reg ?_
   refine rk [(4, .i (W - (a % 4294967296))), (5, .bool (decide ((W - (a % 4294967296)) < n)))] 7 0 ⟨[(58, .bool (decide ((W - (a % 4294967296)) < n))), (16, .i (c % 4294967296)), (9, .i 0), (8, .p 1), (4, .p 0), (1, .u a), (2, .u c), (3, .i n)], [(1, .cells [.i 0, .nils, .nils] 25), (0, .cells (mm W xs ys) 25)], 2⟩ [True, IntKind.i64.wrap (W - (a % 4294967296)) = (W - (a % 4294967296)), (decide ((W - (a % 4294967296)) < n)) = (decide ((W - (a % 4294967296)) < n))] ⟨trivial, i64_eq (by omega) (by omega), rfl, trivial⟩ ?_
   refine splitr 58 (x := (decide ((W - (a % 4294967296)) < n))) (by kernel_rfl) (fun h2 => ?_) (fun h2 => ?_)
   ·
    replace h2 : (W - (a % 4294967296)) < n := of_decide_eq_true h2
    refine rk [] 7 7 ⟨[(65, .t), (9, .i 0), (8, .p 1), (4, .p 0), (1, .u a), (2, .u c), (3, .i n)], [(1, .cells [.i 0, .nils, .nils] 25), (0, .cells (mm W xs ys) 25)], 2⟩ [True] ⟨trivial, trivial⟩ ?_
    refine en ?_
    refine an ?_
    refine ct ?_
    refine rg [] 3 ⟨[(9, .i 2), (8, .p 1), (4, .p 0), (1, .u a), (2, .u c), (3, .i n)], [(1, .cells (mm W xs ys) 25), (0, .cells (mm W xs ys) 25)], 2⟩ [True, True] ⟨trivial, trivial, trivial⟩ ?_
    refine xw_ret ?_
    refine an_ret ?_
    exact bs (.tup [.agg (mm W xs ys), .i 2]) (Or.inr <| ⟨(by omega), rfl⟩)
   ·
    replace h2 : ¬ ((W - (a % 4294967296)) < n) := of_decide_eq_false h2
    refine rk [(11, .i (W - (c % 4294967296))), (12, .bool (decide ((W - (c % 4294967296)) < n)))] 7 7 ⟨[(65, .bool (decide ((W - (c % 4294967296)) < n))), (9, .i 0), (8, .p 1), (4, .p 0), (1, .u a), (2, .u c), (3, .i n)], [(1, .cells [.i 0, .nils, .nils] 25), (0, .cells (mm W xs ys) 25)], 2⟩ [True, IntKind.i64.wrap (W - (c % 4294967296)) = (W - (c % 4294967296)), (decide ((W - (c % 4294967296)) < n)) = (decide ((W - (c % 4294967296)) < n)), True] ⟨trivial, i64_eq (by omega) (by omega), rfl, trivial, trivial⟩ ?_
    refine en ?_
    refine an ?_
    refine xw_cond (b := (decide ((W - (c % 4294967296)) < n))) (by kernel_rfl) (fun h3 => ?_) (fun h3 => ?_)
    ·
     replace h3 : (W - (c % 4294967296)) < n := of_decide_eq_true h3
     refine rg [] 3 ⟨[(9, .i 2), (8, .p 1), (4, .p 0), (1, .u a), (2, .u c), (3, .i n)], [(1, .cells (mm W xs ys) 25), (0, .cells (mm W xs ys) 25)], 2⟩ [True, True] ⟨trivial, trivial, trivial⟩ ?_
     refine xw_ret ?_
     refine an_ret ?_
     exact bs (.tup [.agg (mm W xs ys), .i 2]) (Or.inr <| ⟨(by omega), rfl⟩)
    ·
     replace h3 : ¬ ((W - (c % 4294967296)) < n) := of_decide_eq_false h3
     refine xw_skip ?_
     refine an ?_
     refine rg [] 3 ⟨[(18, .p 2), (9, .i 0), (8, .p 1), (4, .p 0), (1, .u a), (2, .u c), (3, .i n)], [(2, .cells (mm W xs ys) 25), (1, .cells [.i 0, .nils, .nils] 25), (0, .cells (mm W xs ys) 25)], 3⟩ [True, True] ⟨trivial, trivial, trivial⟩ ?_
     refine xw_seq ?_
     refine rg [] 1 ⟨[(19, .i 0), (18, .p 2), (9, .i 0), (8, .p 1), (4, .p 0), (1, .u a), (2, .u c), (3, .i n)], [(2, .cells (mm W xs ys) 25), (1, .cells [.i 0, .nils, .nils] 25), (0, .cells (mm W xs ys) 25)], 3⟩ [] trivial ?_
     refine xw_block ?_
     refine xw_loop (α := {q : Int // (0 ≤ q) ∧ (q ≤ n)}) (fun p => ⟨[(19, .i p.1), (18, .p 2), (9, .i 0), (8, .p 1), (4, .p 0), (1, .u a), (2, .u c), (3, .i n)], [(2, .cells (mm W (mvx xs ys a c p.1) (mvy xs ys a c p.1)) 25), (1, .cells [.i 0, .nils, .nils] 25), (0, .cells (mm W xs ys) 25)], 3⟩) (fun p => (n - p.1).toNat) ⟨0, ⟨(by omega), (by omega)⟩⟩ (le_of [] [(0 : Int) = 0, (0 : Int) = 0, (a : Int) = a, (c : Int) = c, (n : Int) = n, (W : Int) = W, (false = true → false = true), ((m64 xs) : List SV) = (m64 (mvx xs ys a c 0)), (false = true → false = true), ((m64 ys) : List SV) = (m64 (mvy xs ys a c 0)), (0 : Int) = 0, (W : Int) = W, (false = true → false = true), ((m64 xs) : List SV) = (m64 xs), (false = true → false = true), ((m64 ys) : List SV) = (m64 ys)] (by kernel_rfl) ⟨rfl, rfl, rfl, rfl, rfl, rfl, id, (by first | rfl | omega | exact congrArg _ (mvx_0 rfl) | exact congrArg _ (mvy_0 rfl) | exact congrArg _ (mvx_next (show (xs.length : Int) = W by omega) (by omega) (by omega) (by omega) (by omega) (by omega) rfl rfl rfl) | exact congrArg _ (mvy_next (show (xs.length : Int) = W by omega) (by omega) (by omega) (by omega) (by omega) (by omega) rfl rfl rfl)), id, (by first | rfl | omega | exact congrArg _ (mvx_0 rfl) | exact congrArg _ (mvy_0 rfl) | exact congrArg _ (mvx_next (show (xs.length : Int) = W by omega) (by omega) (by omega) (by omega) (by omega) (by omega) rfl rfl rfl) | exact congrArg _ (mvy_next (show (xs.length : Int) = W by omega) (by omega) (by omega) (by omega) (by omega) (by omega) rfl rfl rfl)), rfl, rfl, id, rfl, id, rfl, trivial⟩) ?_
     rintro ⟨i1, h4, h5⟩
     show XW _ _ _ _ _ _ ⟨[(19, .int .i64 i1), (18, .loc 2 0), (9, .int .i64 0), (8, .loc 1 0), (4, .loc 0 0), (1, .int .u64 a), (2, .int .u64 c), (3, .int .i64 n)], [(2, .cells (mm W (mvx xs ys a c i1) (mvy xs ys a c i1)) 25), (1, .cells [.int .i64 0, .nils, .nils] 25), (0, .cells (mm W xs ys) 25)], 3⟩
     have h6 : ((mvx xs ys a c i1).length : Int) = W := (mv_ok W xs ys a c i1 (by omega) (by omega) ‹_› ‹_› (by omega) (by omega) (by omega)).1
     have h7 : ((mvy xs ys a c i1).length : Int) = W := (mv_ok W xs ys a c i1 (by omega) (by omega) ‹_› ‹_› (by omega) (by omega) (by omega)).2.1
     have h8 : U64s (mvx xs ys a c i1) := (mv_ok W xs ys a c i1 (by omega) (by omega) ‹_› ‹_› (by omega) (by omega) (by omega)).2.2.1
     have h9 : U64s (mvy xs ys a c i1) := (mv_ok W xs ys a c i1 (by omega) (by omega) ‹_› ‹_› (by omega) (by omega) (by omega)).2.2.2
     refine xw_seq ?_
     refine rg [(2, .bool (decide (i1 < n)))] 3 ⟨[(70, .bool (decide (i1 < n))), (19, .i i1), (18, .p 2), (9, .i 0), (8, .p 1), (4, .p 0), (1, .u a), (2, .u c), (3, .i n)], [(2, .cells (mm W (mvx xs ys a c i1) (mvy xs ys a c i1)) 25), (1, .cells [.i 0, .nils, .nils] 25), (0, .cells (mm W xs ys) 25)], 3⟩ [(decide (i1 < n)) = (decide (i1 < n))] ⟨rfl, trivial⟩ ?_
     refine xw_cond (b := (decide (i1 < n))) (by kernel_rfl) (fun h10 => ?_) (fun h10 => ?_)
     ·
      replace h10 : i1 < n := of_decide_eq_true h10
      refine xw_skip ?_
      refine an ?_
      refine xw_seq ?_
      refine xw_block ?_
      refine xw_seq ?_
      refine reg ?_
      refine rk [(3, .i i1), (4, .i (a + i1))] 5 0 ⟨[(78, .u (a + i1)), (74, .agg (mm W xs ys)), (19, .i i1), (18, .p 2), (9, .i 0), (8, .p 1), (4, .p 0), (1, .u a), (2, .u c), (3, .i n)], [(2, .cells (mm W (mvx xs ys a c i1) (mvy xs ys a c i1)) 25), (1, .cells [.i 0, .nils, .nils] 25), (0, .cells (mm W xs ys) 25)], 3⟩ [True, IntKind.u64.wrap i1 = i1, IntKind.u64.wrap (a + i1) = (a + i1)] ⟨trivial, u64_in (by omega), u64_eq (by omega) (by omega), trivial⟩ ?_
      refine pc (rload_1 W xs ys (a + i1) ‹_› ‹_› ‹_› ‹_› ‹_› (by omega) (by omega)) ?_
      have h11 : 0 ≤ (ldw xs ys (a + i1)) ∧ (ldw xs ys (a + i1)) ≤ 18446744073709551615 := ldw_ok xs ys (a + i1) ‹_› ‹_›
      refine rk [] 5 6 ⟨[(20, .u (ldw xs ys (a + i1))), (19, .i i1), (18, .p 2), (9, .i 0), (8, .p 1), (4, .p 0), (1, .u a), (2, .u c), (3, .i n)], [(2, .cells (mm W (mvx xs ys a c i1) (mvy xs ys a c i1)) 25), (1, .cells [.i 0, .nils, .nils] 25), (0, .cells (mm W xs ys) 25)], 3⟩ [] trivial ?_
      refine en ?_
      refine an ?_
      refine xw_seq ?_
      refine reg ?_
      refine rk [(3, .i i1), (4, .i (c + i1))] 6 0 ⟨[(88, .u (ldw xs ys (a + i1))), (87, .u (c + i1)), (83, .agg (mm W (mvx xs ys a c i1) (mvy xs ys a c i1))), (19, .i i1), (18, .p 2), (9, .i 0), (8, .p 1), (4, .p 0), (1, .u a), (2, .u c), (3, .i n)], [(2, .cells (mm W (mvx xs ys a c i1) (mvy xs ys a c i1)) 25), (1, .cells [.i 0, .nils, .nils] 25), (0, .cells (mm W xs ys) 25)], 3⟩ [True, IntKind.u64.wrap i1 = i1, IntKind.u64.wrap (c + i1) = (c + i1)] ⟨trivial, u64_in (by omega), u64_eq (by omega) (by omega), trivial⟩ ?_
      refine pc (rstore_1 W (mvx xs ys a c i1) (mvy xs ys a c i1) (c + i1) (ldw xs ys (a + i1)) ‹_› ‹_› ‹_› ‹_› ‹_› (by omega) ‹_› (by omega)) ?_
      obtain ⟨h12, h13, h14, h15⟩ := stx_ok W (mvx xs ys a c i1) (mvy xs ys a c i1) (c + i1) (ldw xs ys (a + i1)) ‹_› ‹_› ‹_› ‹_› (by omega)
      refine rk [] 6 7 ⟨[(22, .p 3), (19, .i i1), (18, .p 2), (9, .i 0), (8, .p 1), (4, .p 0), (1, .u a), (2, .u c), (3, .i n)], [(3, .cells (mm W (stx (mvx xs ys a c i1) (c + i1) (ldw xs ys (a + i1))) (sty (mvy xs ys a c i1) (c + i1) (ldw xs ys (a + i1)))) 25), (2, .cells (mm W (mvx xs ys a c i1) (mvy xs ys a c i1)) 25), (1, .cells [.i 0, .nils, .nils] 25), (0, .cells (mm W xs ys) 25)], 4⟩ [True] ⟨trivial, trivial⟩ ?_
      refine en ?_
      refine an ?_
      refine re [] 2 ⟨[(19, .i i1), (18, .p 2), (9, .i 0), (8, .p 1), (4, .p 0), (1, .u a), (2, .u c), (3, .i n)], [(2, .cells (mm W (stx (mvx xs ys a c i1) (c + i1) (ldw xs ys (a + i1))) (sty (mvy xs ys a c i1) (c + i1) (ldw xs ys (a + i1)))) 25), (1, .cells [.i 0, .nils, .nils] 25), (0, .cells (mm W xs ys) 25)], 4⟩ [True, True] ⟨trivial, trivial, trivial⟩ ?_
      refine ib ?_
      refine an ?_
      refine re [(1, .i (i1 + 1))] 3 ⟨[(19, .i (i1 + 1)), (18, .p 2), (9, .i 0), (8, .p 1), (4, .p 0), (1, .u a), (2, .u c), (3, .i n)], [(2, .cells (mm W (stx (mvx xs ys a c i1) (c + i1) (ldw xs ys (a + i1))) (sty (mvy xs ys a c i1) (c + i1) (ldw xs ys (a + i1)))) 25), (1, .cells [.i 0, .nils, .nils] 25), (0, .cells (mm W xs ys) 25)], 4⟩ [IntKind.i64.wrap (i1 + 1) = (i1 + 1)] ⟨i64_eq (by omega) (by omega), trivial⟩ ?_
      exact ag ⟨(i1 + 1), ⟨(by omega), (by omega)⟩⟩ (le_of [] [((i1 + 1) : Int) = (i1 + 1), (0 : Int) = 0, (a : Int) = a, (c : Int) = c, (n : Int) = n, (W : Int) = W, (false = true → false = true), ((m64 (stx (mvx xs ys a c i1) (c + i1) (ldw xs ys (a + i1)))) : List SV) = (m64 (mvx xs ys a c (i1 + 1))), (false = true → false = true), ((m64 (sty (mvy xs ys a c i1) (c + i1) (ldw xs ys (a + i1)))) : List SV) = (m64 (mvy xs ys a c (i1 + 1))), (0 : Int) = 0, (W : Int) = W, (false = true → false = true), ((m64 xs) : List SV) = (m64 xs), (false = true → false = true), ((m64 ys) : List SV) = (m64 ys)] (by kernel_rfl) ⟨rfl, rfl, rfl, rfl, rfl, rfl, id, (by first | rfl | omega | exact congrArg _ (mvx_0 rfl) | exact congrArg _ (mvy_0 rfl) | exact congrArg _ (mvx_next (show (xs.length : Int) = W by omega) (by omega) (by omega) (by omega) (by omega) (by omega) rfl rfl rfl) | exact congrArg _ (mvy_next (show (xs.length : Int) = W by omega) (by omega) (by omega) (by omega) (by omega) (by omega) rfl rfl rfl)), id, (by first | rfl | omega | exact congrArg _ (mvx_0 rfl) | exact congrArg _ (mvy_0 rfl) | exact congrArg _ (mvx_next (show (xs.length : Int) = W by omega) (by omega) (by omega) (by omega) (by omega) (by omega) rfl rfl rfl) | exact congrArg _ (mvy_next (show (xs.length : Int) = W by omega) (by omega) (by omega) (by omega) (by omega) (by omega) rfl rfl rfl)), rfl, rfl, id, rfl, id, rfl, trivial⟩) (by show (n - (i1 + 1)).toNat < (n - i1).toNat; omega)
     ·
      replace h10 : ¬ (i1 < n) := of_decide_eq_false h10
      refine xw_exit ?_
      refine an_exit ?_
      refine ag_exit ?_
      refine ib_same ?_
      refine an ?_
      refine rg [] 3 ⟨[(9, .i 0), (8, .p 1)], [(1, .cells (mm W (mvx xs ys a c i1) (mvy xs ys a c i1)) 25)], 3⟩ [True, True] ⟨trivial, trivial, trivial⟩ ?_
      refine xw_ret ?_
      exact br (.tup [.agg (mm W (mvx xs ys a c i1) (mvy xs ys a c i1)), .i 0]) (.tup [.agg (mm W (mvx xs ys a c n) (mvy xs ys a c n)), .i 0]) (wkd [(W : Int) = W, (false = true → false = true), (m64 (mvx xs ys a c i1)) = (m64 (mvx xs ys a c n)), (false = true → false = true), (m64 (mvy xs ys a c i1)) = (m64 (mvy xs ys a c n)), (0 : Int) = 0] (by kernel_rfl) ⟨rfl, id, (by first | rfl | exact congrArg _ (mvx_eq (by omega)) | exact congrArg _ (mvy_eq (by omega))), id, (by first | rfl | exact congrArg _ (mvx_eq (by omega)) | exact congrArg _ (mvy_eq (by omega))), rfl, trivial⟩) (Or.inl <| ⟨(by omega), (by omega), rfl⟩)
  ·
   refine pc (rthere_2 W xs ys c ‹_› ‹_› ‹_› ‹_› ‹_› ‹_› (by omega)) ?_
   refine rk [] 1 3 ⟨[(11, .f), (10, .t), (9, .i 0), (8, .p 1), (4, .p 0), (1, .u a), (2, .u c), (3, .i n)], [(1, .cells [.i 0, .nils, .nils] 25), (0, .cells (mm W xs ys) 25)], 2⟩ [] trivial ?_
   refine en ?_
   refine an ?_
   refine xw_seq ?_
   refine rg [] 6 ⟨[(38, .t), (9, .i 0), (8, .p 1), (4, .p 0), (1, .u a), (2, .u c), (3, .i n)], [(1, .cells [.i 0, .nils, .nils] 25), (0, .cells (mm W xs ys) 25)], 2⟩ [True] ⟨trivial, trivial⟩ ?_
   refine ct ?_
   refine rg [] 3 ⟨[(9, .i 2), (8, .p 1), (4, .p 0), (1, .u a), (2, .u c), (3, .i n)], [(1, .cells (mm W xs ys) 25), (0, .cells (mm W xs ys) 25)], 2⟩ [True, True] ⟨trivial, trivial, trivial⟩ ?_
   refine xw_ret ?_
   refine an_ret ?_
   exact bs (.tup [.agg (mm W xs ys), .i 2]) (Or.inr <| ⟨(by omega), rfl⟩)
 ·
  refine pc (rthere_2 W xs ys a ‹_› ‹_› ‹_› ‹_› ‹_› ‹_› (by omega)) ?_
  refine rk [] 1 3 ⟨[(10, .f), (9, .i 0), (8, .p 1), (4, .p 0), (1, .u a), (2, .u c), (3, .i n)], [(1, .cells [.i 0, .nils, .nils] 25), (0, .cells (mm W xs ys) 25)], 2⟩ [] trivial ?_
  refine en ?_
  refine an ?_
  refine xw_seq ?_
  refine reg ?_
  refine rk [] 2 0 ⟨[(31, .u c), (30, .agg (mm W xs ys)), (10, .f), (9, .i 0), (8, .p 1), (4, .p 0), (1, .u a), (2, .u c), (3, .i n)], [(1, .cells [.i 0, .nils, .nils] 25), (0, .cells (mm W xs ys) 25)], 2⟩ [True] ⟨trivial, trivial⟩ ?_
  by_cases h1 : 1 ≤ c / 4294967296 ∧ c / 4294967296 ≤ 2 ∧ c % 4294967296 < W
  ·
   refine pc (rthere_1 W xs ys c ‹_› ‹_› ‹_› ‹_› ‹_› ‹_› (by omega)) ?_
   refine rk [] 1 3 ⟨[(11, .t), (10, .f), (9, .i 0), (8, .p 1), (4, .p 0), (1, .u a), (2, .u c), (3, .i n)], [(1, .cells [.i 0, .nils, .nils] 25), (0, .cells (mm W xs ys) 25)], 2⟩ [] trivial ?_
   refine en ?_
   refine an ?_
   refine xw_seq ?_
   refine rg [] 6 ⟨[(38, .t), (9, .i 0), (8, .p 1), (4, .p 0), (1, .u a), (2, .u c), (3, .i n)], [(1, .cells [.i 0, .nils, .nils] 25), (0, .cells (mm W xs ys) 25)], 2⟩ [True] ⟨trivial, trivial⟩ ?_
   refine ct ?_
   refine rg [] 3 ⟨[(9, .i 2), (8, .p 1), (4, .p 0), (1, .u a), (2, .u c), (3, .i n)], [(1, .cells (mm W xs ys) 25), (0, .cells (mm W xs ys) 25)], 2⟩ [True, True] ⟨trivial, trivial, trivial⟩ ?_
   refine xw_ret ?_
   refine an_ret ?_
   exact bs (.tup [.agg (mm W xs ys), .i 2]) (Or.inr <| ⟨(by omega), rfl⟩)
  ·
   refine pc (rthere_2 W xs ys c ‹_› ‹_› ‹_› ‹_› ‹_› ‹_› (by omega)) ?_
   refine rk [] 1 3 ⟨[(11, .f), (10, .f), (9, .i 0), (8, .p 1), (4, .p 0), (1, .u a), (2, .u c), (3, .i n)], [(1, .cells [.i 0, .nils, .nils] 25), (0, .cells (mm W xs ys) 25)], 2⟩ [] trivial ?_
   refine en ?_
   refine an ?_
   refine xw_seq ?_
   refine rg [] 6 ⟨[(38, .t), (9, .i 0), (8, .p 1), (4, .p 0), (1, .u a), (2, .u c), (3, .i n)], [(1, .cells [.i 0, .nils, .nils] 25), (0, .cells (mm W xs ys) 25)], 2⟩ [True] ⟨trivial, trivial⟩ ?_
   refine ct ?_
   refine rg [] 3 ⟨[(9, .i 2), (8, .p 1), (4, .p 0), (1, .u a), (2, .u c), (3, .i n)], [(1, .cells (mm W xs ys) 25), (0, .cells (mm W xs ys) 25)], 2⟩ [True, True] ⟨trivial, trivial, trivial⟩ ?_
   refine xw_ret ?_
   refine an_ret ?_
   exact bs (.tup [.agg (mm W xs ys), .i 2]) (Or.inr <| ⟨(by omega), rfl⟩)

theorem rmove_1 (W : Int) (xs ys : List Int) (a c n : Int) (hp0 : 16 ≤ W ∧ W ≤ 4096) (hp1 : (xs.length : Int) = W) (hp2 : (ys.length : Int) = W) (hp3 : U64s xs) (hp4 : U64s ys) (hp5 : 0 ≤ a ∧ a ≤ 18446744073709551615) (hp6 : 0 ≤ c ∧ c ≤ 18446744073709551615) (hp7 : 1 ≤ n ∧ n ≤ 4096) (hp8 : 1 ≤ a / 4294967296 ∧ a / 4294967296 ≤ 2 ∧ a % 4294967296 + n ≤ W) (hp9 : 1 ≤ c / 4294967296 ∧ c / 4294967296 ≤ 2 ∧ c % 4294967296 + n ≤ W) : Pub Try.prog 32 [.agg (mm W xs ys), .u a, .u c, .i n] (fun rv => rv = .tup [.agg (mm W (mvx xs ys a c n) (mvy xs ys a c n)), .i 0]) := by
  refine (rmove W xs ys a c n hp0 hp1 hp2 hp3 hp4 hp5 hp6 hp7).mono ?_
  rintro _ (⟨g0, g1, rfl⟩ | ⟨g0, rfl⟩)
  all_goals first | rfl | (exfalso; first | omega | grind)

end Go.Proofs.Ytnfkgfibinimmaa.X
