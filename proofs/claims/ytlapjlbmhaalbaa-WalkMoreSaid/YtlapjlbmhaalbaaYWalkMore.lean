/- Contracts of Go functions: what each returns, for every input that its premises name; no memory of the caller is touched. Printed by a program. -/
import Derived.Test.YtlapjlbmhaalbaaXh3
import Derived.Test.YtlapjlbmhaalbaaXh4
import Derived.Test.YtlapjlbmhaalbaaXv2
namespace Go.Proofs.Ytlapjlbmhaalbaa.X
open Go Go.RowKit
set_option linter.unusedVariables false      -- a premise may serve only to tell which way is taken
set_option linter.unusedSimpArgs false
theorem walkMore (W : Int) (xs ys l : List Int) (a : Int) (hp0 : -9223372036854775808 ≤ W ∧ W ≤ 9223372036854775807) (hp1 : U64s xs) (hp2 : U64s ys) (hp3 : U64s l) (hp4 : 0 ≤ a ∧ a ≤ 18446744073709551615) : Pub Try.prog 5 [.agg (mm W xs ys), .sl false 1 (m64 l), .u a] (fun rv => rv = .t) := by
 refine pub_of TT_ok Try.func5 rfl (by decide) (Nat.le_of_ble_eq_true (by kernel_rfl)) (by kernel_rfl) ?_
 refine rg [] 2 ⟨[(6, .f), (3, .p 0), (1, .sl false 1 (m64 l)), (2, .u a)], [(0, .cells (mm W xs ys) 25)], 1⟩ [] trivial ?_
 refine xw_seq ?_
 refine reg ?_
 refine pc (shown6 ) ?_
 refine rk [] 1 1 ⟨[(7, .t), (6, .f), (3, .p 0), (1, .sl false 1 (m64 l)), (2, .u a)], [(0, .cells (mm W xs ys) 25)], 1⟩ [] trivial ?_
 refine en ?_
 refine an ?_
 refine xw_seq ?_
 refine reg ?_
 refine rk [] 1 0 ⟨[(12, .agg (mm W xs ys)), (7, .t), (6, .f), (3, .p 0), (1, .sl false 1 (m64 l)), (2, .u a)], [(0, .cells (mm W xs ys) 25)], 1⟩ [True] ⟨trivial, trivial⟩ ?_
 by_cases h0 : 16 ≤ W ∧ W ≤ 200 ∧ (xs.length : Int) = W ∧ (ys.length : Int) = W
 ·
  refine pc (few6_1 W xs ys ‹_› ‹_›) ?_
  refine rk [] 1 2 ⟨[(8, .t), (7, .t), (6, .f), (3, .p 0), (1, .sl false 1 (m64 l)), (2, .u a)], [(0, .cells (mm W xs ys) 25)], 1⟩ [] trivial ?_
  refine en ?_
  refine an ?_
  refine xw_seq ?_
  refine rg [(4, .i ((l).length : Int)), (5, .bool (decide (40 < ((l).length : Int))))] 7 ⟨[(20, .bool (decide (40 < ((l).length : Int)))), (7, .t), (6, .f), (3, .p 0), (1, .sl false 1 (m64 l)), (2, .u a)], [(0, .cells (mm W xs ys) 25)], 1⟩ [((((m64 l)).length : Nat) : Int) = ((l).length : Int), (decide (40 < ((l).length : Int))) = (decide (40 < ((l).length : Int))), True] ⟨(by simp), rfl, trivial, trivial⟩ ?_
  refine xw_cond (b := (decide (40 < ((l).length : Int)))) (by kernel_rfl) (fun h1 => ?_) (fun h1 => ?_)
  ·
   replace h1 : 40 < (l.length : Int) := of_decide_eq_true h1
   refine rg [] 2 ⟨[(6, .t), (7, .t), (3, .p 0), (1, .sl false 1 (m64 l)), (2, .u a)], [(0, .cells (mm W xs ys) 25)], 1⟩ [] trivial ?_
   refine xw_ret ?_
   refine an_ret ?_
   exact bs (.t) rfl
  ·
   replace h1 : ¬ (40 < (l.length : Int)) := of_decide_eq_false h1
   refine xw_skip ?_
   refine an ?_
   refine xw_seq ?_
   refine reg ?_
   refine rk [] 2 0 ⟨[(23, .sl false 1 (m64 l)), (22, .agg (mm W xs ys)), (7, .t), (6, .f), (3, .p 0), (1, .sl false 1 (m64 l)), (2, .u a)], [(0, .cells (mm W xs ys) 25)], 1⟩ [True] ⟨trivial, trivial⟩ ?_
   refine pc (wreach W xs ys l (by omega) (by omega) (by omega) ‹_› ‹_› ‹_› (by omega)) ?_
   obtain ⟨h2, h3⟩ := rch_okx W xs ys l (by omega)
   refine rk [] 1 3 ⟨[(9, .sl false 1 (m64 (rch W xs ys l))), (7, .t), (6, .f), (3, .p 0), (1, .sl false 1 (m64 l)), (2, .u a)], [(0, .cells (mm W xs ys) 25)], 1⟩ [] trivial ?_
   refine en ?_
   refine an ?_
   refine xw_seq ?_
   refine ureg hmix [1, 2] [⟨[(0, .cells (mm W xs ys) 25)], [], [1, 2]⟩, ⟨[(1, .row 1 35 []), (0, .cells (mm W xs ys) 25)], [1], [2]⟩, ⟨[(2, .row 1 35 (([]) ++ ((m64 l)))), (0, .cells (mm W xs ys) 25)], [1, 3], []⟩, ⟨[(0, .cells (mm W xs ys) 25)], [1, 3, 6], []⟩] [1, 3, 6] [(3, [1, 2]), (5, [4]), (6, [1, 2, 3, 4, 5]), (7, [0, 1, 2, 3, 4, 5, 6]), (8, [0, 1, 2, 3, 4, 5, 6, 7])] 3 3 (by kernel_rfl) ?_
   refine urun_ TT_ok [(1, .own 1), (3, .own 2), (5, .t), (6, .t)] (Nat.le_of_ble_eq_true (by kernel_rfl)) (by kernel_rfl) 7 0 [(31, .sl false 1 (((([]) ++ ((m64 l)))) ++ ([.u a]))), (30, .sl false 1 [.u a]), (29, .u a), (28, .own 2), (27, .sl false 1 (m64 l)), (26, .own 1), (25, .agg (mm W xs ys)), (9, .sl false 1 (m64 (rch W xs ys l))), (7, .t), (6, .f), (3, .p 0), (1, .sl false 1 (m64 l)), (2, .u a)] [(SV.agg (mm W xs ys)) = SV.agg (mm W xs ys), True, (SV.agg (mm W xs ys)) = SV.agg (mm W xs ys), True, (SV.agg (mm W xs ys)) = SV.agg (mm W xs ys), True, True, ([(1, .row 1 35 []), (0, .cells (mm W xs ys) 25)] : Mem) = [(1, .row 1 35 []), (0, .cells (mm W xs ys) 25)], (SV.sl false 1 (m64 l)) = SV.sl false 1 (m64 l), True, True, (∀ y ∈ ((m64 l) : List SV), ElemOk y) ∧ (false = true → 1 ≤ ((m64 l) : List SV).length ∧ ∀ x ∈ ([] : List SV), ElemOk x) ∧ (([] : List SV).length + ((m64 l) : List SV).length) * 8 ≤ 140737488355328 ∧ ([] : List SV).length + ((m64 l) : List SV).length ≤ 4611686018427387904, ([(2, .row 1 35 (([]) ++ ((m64 l)))), (0, .cells (mm W xs ys) 25)] : Mem) = [(2, .row 1 35 (([]) ++ ((m64 l)))), (0, .cells (mm W xs ys) 25)], (SV.int .u64 a) = SV.int .u64 a, True, (SV.int .u64 a) = SV.int .u64 a, True, True, (SV.sl false 1 [.u a]) = SV.sl false 1 [.u a], True, (SV.sl false 1 [.u a]) = SV.sl false 1 [.u a], True, True, (∀ y ∈ ([.u a] : List SV), ElemOk y) ∧ (false = true → 1 ≤ ([.u a] : List SV).length ∧ ∀ x ∈ ((([]) ++ ((m64 l))) : List SV), ElemOk x) ∧ (((([]) ++ ((m64 l))) : List SV).length + ([.u a] : List SV).length) * 8 ≤ 140737488355328 ∧ ((([]) ++ ((m64 l))) : List SV).length + ([.u a] : List SV).length ≤ 4611686018427387904, ([(0, .cells (mm W xs ys) 25)] : Mem) = [(0, .cells (mm W xs ys) 25)]] (by kernel_rfl) ⟨rfl, trivial, rfl, trivial, rfl, trivial, trivial, rfl, rfl, trivial, trivial, ⟨elem_map, (fun h => by cases h), by first | omega | (simp only [len_st]; omega) | (simp; done) | (simp; omega) | (simp [len_st, len_stx, len_sty, len_zx, len_zy]; omega), by first | omega | (simp only [len_st]; omega) | (simp; done) | (simp; omega) | (simp [len_st, len_stx, len_sty, len_zx, len_zy]; omega)⟩, rfl, rfl, trivial, rfl, trivial, trivial, rfl, trivial, rfl, trivial, trivial, ⟨(by intro y hy; simp at hy; first | (subst hy; rfl) | (rcases hy with rfl | rfl <;> rfl)), (fun h => by cases h), by first | omega | (simp only [len_st]; omega) | (simp; done) | (simp; omega) | (simp [len_st, len_stx, len_sty, len_zx, len_zy]; omega), by first | omega | (simp only [len_st]; omega) | (simp; done) | (simp; omega) | (simp [len_st, len_stx, len_sty, len_zx, len_zy]; omega)⟩, rfl, trivial⟩ ?_
   refine usets 31 (x := false) (z := 1) (L := (((([]) ++ ((m64 l)))) ++ ([.u a]))) (L' := (m64 (l ++ [a]))) (by kernel_rfl) (by simp) ?_
   refine ucall (args := [.agg (mm W xs ys), .sl false 1 (m64 (l ++ [a]))]) (args' := [.agg (mm W xs ys), .sl false 1 (m64 (l ++ [ a ]))]) (d := (some 32)) (sv := .sl false 1 (m64 (rch W xs ys (l ++ [ a ])))) (by kernel_rfl) (by kernel_rfl) (wreach W xs ys (l ++ [ a ]) (by omega) (by omega) (by omega) ‹_› ‹_› (by first | omega | assumption | rfl | (rw [len_zx]; assumption) | (rw [len_zy]; assumption) | exact U64s.zx (by assumption) _ _ | exact U64s.zy (by assumption) _ _ | exact U64s.rep _ | decide | (simp; done) | exact U64s.take (by assumption) _ | exact U64s.nil | exact U64s.append (by assumption) (U64s.cons (by omega) U64s.nil) | (simp; omega)) (by first | omega | assumption | rfl | (rw [len_zx]; assumption) | (rw [len_zy]; assumption) | exact U64s.zx (by assumption) _ _ | exact U64s.zy (by assumption) _ _ | exact U64s.rep _ | decide | (simp; done) | exact U64s.take (by assumption) _ | exact U64s.nil | exact U64s.append (by assumption) (U64s.cons (by omega) U64s.nil) | (simp; omega))) [(W : Int) = W, (false = true → false = true), ((m64 xs) : List SV) = (m64 xs), (false = true → false = true), ((m64 ys) : List SV) = (m64 ys), (false = true → false = true), ((m64 (l ++ [a])) : List SV) = (m64 (l ++ [ a ]))] (by kernel_rfl) ⟨rfl, id, rfl, id, rfl, id, rfl, trivial⟩ (by kernel_rfl) ?_
   obtain ⟨h4, h5⟩ := rch_okx W xs ys (l ++ [ a ]) (by omega)
   have h6 : ((rch W xs ys l).length : Int) ≤ ((rch W xs ys (l ++ [ a ])).length : Int) := rch_len
   have h7 : (rch W xs ys (l ++ [ a ])).take (Int.toNat ((rch W xs ys l).length : Int)) = (rch W xs ys l) := rch_take
   refine urun_ TT_ok [] (Nat.le_of_ble_eq_true (by kernel_rfl)) (by kernel_rfl) 1 8 [(10, .sl false 1 (m64 (rch W xs ys (l ++ [ a ])))), (32, .sl false 1 (m64 (rch W xs ys (l ++ [ a ])))), (31, .sl false 1 (m64 (l ++ [a]))), (31, .sl false 1 (((([]) ++ ((m64 l)))) ++ ([.u a]))), (30, .sl false 1 [.u a]), (29, .u a), (28, .own 2), (27, .sl false 1 (m64 l)), (26, .own 1), (25, .agg (mm W xs ys)), (9, .sl false 1 (m64 (rch W xs ys l))), (7, .t), (6, .f), (3, .p 0), (1, .sl false 1 (m64 l)), (2, .u a)] [True] (by kernel_rfl) ⟨trivial, trivial⟩ ?_
   refine uend ?_
   refine an ?_
   refine xw_seq ?_
   refine xw_seq ?_
   refine reg ?_
   refine rk [(1, .i (((rch W xs ys l)).length : Int)), (3, .i (((rch W xs ys (l ++ [ a ]))).length : Int)), (4, .f)] 7 0 ⟨[(39, .agg (mm W xs ys)), (38, .f), (10, .sl false 1 (m64 (rch W xs ys (l ++ [ a ])))), (9, .sl false 1 (m64 (rch W xs ys l))), (7, .t), (6, .f)], [], 3⟩ [((((m64 (rch W xs ys l))).length : Nat) : Int) = (((rch W xs ys l)).length : Int), ((((m64 (rch W xs ys (l ++ [ a ])))).length : Nat) : Int) = (((rch W xs ys (l ++ [ a ]))).length : Int), (decide ((((rch W xs ys (l ++ [ a ]))).length : Int) < (((rch W xs ys l)).length : Int))) = false, True] ⟨(by simp), (by simp), decide_eq_false (by omega), trivial, trivial⟩ ?_
   refine pcall1 (args := [.agg (mm W xs ys), .nils]) (args' := [.agg (mm W xs ys), .sl false 1 (m64 [])]) (d := (some 40)) (sv := .sl false 1 (m64 (rch W xs ys []))) (by kernel_rfl) (wreach W xs ys [] (by omega) (by omega) (by omega) ‹_› ‹_› (by first | omega | assumption | rfl | (rw [len_zx]; assumption) | (rw [len_zy]; assumption) | exact U64s.zx (by assumption) _ _ | exact U64s.zy (by assumption) _ _ | exact U64s.rep _ | decide | (simp; done) | exact U64s.take (by assumption) _ | exact U64s.nil | exact U64s.append (by assumption) (U64s.cons (by omega) U64s.nil) | (simp; omega)) (by first | omega | assumption | rfl | (rw [len_zx]; assumption) | (rw [len_zy]; assumption) | exact U64s.zx (by assumption) _ _ | exact U64s.zy (by assumption) _ _ | exact U64s.rep _ | decide | (simp; done) | exact U64s.take (by assumption) _ | exact U64s.nil | exact U64s.append (by assumption) (U64s.cons (by omega) U64s.nil) | (simp; omega))) [(W : Int) = W, (false = true → false = true), ((m64 xs) : List SV) = (m64 xs), (false = true → false = true), ((m64 ys) : List SV) = (m64 ys), ((m64 []) : List SV) = []] (by kernel_rfl) ⟨rfl, id, rfl, id, rfl, rfl, trivial⟩ (by kernel_rfl) ?_
   obtain ⟨h8, h9⟩ := rch_okx W xs ys [] (by omega)
   have h10 : ((rch W xs ys []).length : Int) = 0 := rch_nil_len
   refine rk [(8, .i (((rch W xs ys [ ])).length : Int)), (9, .f)] 3 8 ⟨[(43, .f), (10, .sl false 1 (m64 (rch W xs ys (l ++ [ a ])))), (9, .sl false 1 (m64 (rch W xs ys l))), (7, .t), (6, .f)], [], 3⟩ [((((m64 (rch W xs ys []))).length : Nat) : Int) = (((rch W xs ys [ ])).length : Int), (decide (0 < (((rch W xs ys [ ])).length : Int))) = false, True] ⟨(by simp), decide_eq_false (by omega), trivial, trivial⟩ ?_
   refine en ?_
   refine an ?_
   refine cf ?_
   refine xw_skip ?_
   refine an ?_
   refine xw_seq ?_
   refine reg ?_
   refine rk [(4, .i (((rch W xs ys l)).length : Int))] 6 0 ⟨[(49, .sl false 1 ((((m64 (rch W xs ys (l ++ [ a ])))).take ((((rch W xs ys l)).length : Int) : Int).toNat).drop (0 : Int).toNat)), (45, .t), (9, .sl false 1 (m64 (rch W xs ys l))), (6, .f)], [], 3⟩ [((((m64 (rch W xs ys l))).length : Nat) : Int) = (((rch W xs ys l)).length : Int), (0 : Int) ≤ 0 ∧ 0 ≤ (((rch W xs ys l)).length : Int) ∧ (((rch W xs ys l)).length : Int) ≤ ((((m64 (rch W xs ys (l ++ [ a ])))).length : Nat) : Int)] ⟨(by simp), ⟨by omega, by omega, by first | omega | (simp only [len_st]; omega) | (simp; done) | (simp; omega) | (simp [len_st, len_stx, len_sty, len_zx, len_zy]; omega)⟩, trivial⟩ ?_
   refine sets 49 (x := false) (z := 1) (L := ((((m64 (rch W xs ys (l ++ [ a ])))).take ((((rch W xs ys l)).length : Int) : Int).toNat).drop (0 : Int).toNat)) (L' := (m64 ((rch W xs ys (l ++ [ a ])).take ((((rch W xs ys l).length : Int) : Int).toNat)))) (by kernel_rfl) cut0 ?_
   refine rk [] 1 6 ⟨[(50, .sl false 1 (m64 (rch W xs ys l))), (49, .sl false 1 (m64 ((rch W xs ys (l ++ [ a ])).take ((((rch W xs ys l).length : Int) : Int).toNat)))), (45, .t), (6, .f)], [], 3⟩ [] trivial ?_
   by_cases h11 : ((rch W xs ys (l ++ [ a ])).take ((((rch W xs ys l).length : Int) : Int).toNat)) = (rch W xs ys l)
   ·
    refine pc (rwords_1 ((rch W xs ys (l ++ [ a ])).take ((((rch W xs ys l).length : Int) : Int).toNat)) (rch W xs ys l) (by first | omega | assumption | rfl | (rw [len_zx]; assumption) | (rw [len_zy]; assumption) | exact U64s.zx (by assumption) _ _ | exact U64s.zy (by assumption) _ _ | exact U64s.rep _ | decide | (simp; done) | exact U64s.take (by assumption) _ | exact U64s.nil | exact U64s.append (by assumption) (U64s.cons (by omega) U64s.nil) | (simp; omega)) ‹_› (by first | omega | assumption | rfl | (rw [len_zx]; assumption) | (rw [len_zy]; assumption) | exact U64s.zx (by assumption) _ _ | exact U64s.zy (by assumption) _ _ | exact U64s.rep _ | decide | (simp; done) | exact U64s.take (by assumption) _ | exact U64s.nil | exact U64s.append (by assumption) (U64s.cons (by omega) U64s.nil) | (simp; omega)) (by omega) ‹_›) ?_
    refine rk [] 2 8 ⟨[(6, .t)], [], 3⟩ [True] ⟨trivial, trivial⟩ ?_
    refine en ?_
    refine an ?_
    refine xw_ret ?_
    exact bs (.t) rfl
   ·
    refine pc (rwords_2 ((rch W xs ys (l ++ [ a ])).take ((((rch W xs ys l).length : Int) : Int).toNat)) (rch W xs ys l) (by first | omega | assumption | rfl | (rw [len_zx]; assumption) | (rw [len_zy]; assumption) | exact U64s.zx (by assumption) _ _ | exact U64s.zy (by assumption) _ _ | exact U64s.rep _ | decide | (simp; done) | exact U64s.take (by assumption) _ | exact U64s.nil | exact U64s.append (by assumption) (U64s.cons (by omega) U64s.nil) | (simp; omega)) ‹_› (by first | omega | assumption | rfl | (rw [len_zx]; assumption) | (rw [len_zy]; assumption) | exact U64s.zx (by assumption) _ _ | exact U64s.zy (by assumption) _ _ | exact U64s.rep _ | decide | (simp; done) | exact U64s.take (by assumption) _ | exact U64s.nil | exact U64s.append (by assumption) (U64s.cons (by omega) U64s.nil) | (simp; omega)) (by omega) ‹_›) ?_
    refine rk [] 2 8 ⟨[(6, .f)], [], 3⟩ [True] ⟨trivial, trivial⟩ ?_
    refine en ?_
    refine an ?_
    refine xw_ret ?_
    exact br (.f) (.t) (wkd [false = true] (by kernel_rfl) ⟨(by first | exact decide_eq_true (by omega) | exact decide_eq_false (by omega) | (simp; done) | (simp; omega) | (simp_all; done) | (simp_all; omega) | grind), trivial⟩) rfl
 ·
  refine pc (few6_2 W xs ys ‹_› ‹_›) ?_
  refine rk [] 1 2 ⟨[(8, .f), (7, .t), (6, .f), (3, .p 0), (1, .sl false 1 (m64 l)), (2, .u a)], [(0, .cells (mm W xs ys) 25)], 1⟩ [] trivial ?_
  refine en ?_
  refine an ?_
  refine xw_seq ?_
  refine rg [] 7 ⟨[(20, .t), (7, .t), (6, .f), (3, .p 0), (1, .sl false 1 (m64 l)), (2, .u a)], [(0, .cells (mm W xs ys) 25)], 1⟩ [True] ⟨trivial, trivial⟩ ?_
  refine ct ?_
  refine rg [] 2 ⟨[(6, .t), (7, .t), (3, .p 0), (1, .sl false 1 (m64 l)), (2, .u a)], [(0, .cells (mm W xs ys) 25)], 1⟩ [] trivial ?_
  refine xw_ret ?_
  refine an_ret ?_
  exact bs (.t) rfl

end Go.Proofs.Ytlapjlbmhaalbaa.X
