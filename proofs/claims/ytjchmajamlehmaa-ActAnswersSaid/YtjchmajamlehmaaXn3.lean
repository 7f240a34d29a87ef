/- Contracts of Go functions: what each returns, for every input that its premises name; no memory of the caller is touched. Printed by a program. -/
import Derived.Test.YtjchmajamlehmaaXt
import Derived.Test.YtjchmajamlehmaaXq2
import Derived.Test.YtjchmajamlehmaaXu6
namespace Go.Proofs.Ytjchmajamlehmaa.X
open Go Go.RowKit
set_option linter.unusedVariables false      -- a premise may serve only to tell which way is taken
set_option linter.unusedSimpArgs false
theorem rmright (W : Int) (xs ys : List Int) (hp0 : -9223372036854775808 ≤ W ∧ W ≤ 9223372036854775807) : Pub Try.prog 24 [.agg (mm W xs ys)] (fun rv => ((16 ≤ W ∧ W ≤ 4096 ∧ (xs.length : Int) = W ∧ (ys.length : Int) = W) ∧ rv = .t) ∨ ((¬ (16 ≤ W ∧ W ≤ 4096 ∧ (xs.length : Int) = W ∧ (ys.length : Int) = W)) ∧ rv = .f)) := by
 refine pub_of TT_ok Try.func24 rfl (by decide) (Nat.le_of_ble_eq_true (by kernel_rfl)) (by kernel_rfl) ?_
 refine rg [] 2 ⟨[(2, .f), (1, .p 0)], [(0, .cells (mm W xs ys) 25)], 1⟩ [] trivial ?_
 refine xw_seq ?_
 refine reg ?_
 refine rk [(2, .bool (decide (16 ≤ W)))] 4 0 ⟨[(6, .bool (decide (16 ≤ W))), (2, .f), (1, .p 0)], [(0, .cells (mm W xs ys) 25)], 1⟩ [True, (decide (16 ≤ W)) = (decide (16 ≤ W))] ⟨trivial, rfl, trivial⟩ ?_
 refine splitr 6 (x := (decide (16 ≤ W))) (by kernel_rfl) (fun h0 => ?_) (fun h0 => ?_)
 ·
  replace h0 : 16 ≤ W := of_decide_eq_true h0
  refine rk [(6, .bool (decide (W ≤ 4096)))] 5 4 ⟨[(11, .bool (decide (W ≤ 4096))), (2, .f), (1, .p 0)], [(0, .cells (mm W xs ys) 25)], 1⟩ [True, (decide (W ≤ 4096)) = (decide (W ≤ 4096)), True] ⟨trivial, rfl, trivial, trivial⟩ ?_
  refine splitr 11 (x := (decide (W ≤ 4096))) (by kernel_rfl) (fun h1 => ?_) (fun h1 => ?_)
  ·
   replace h1 : W ≤ 4096 := of_decide_eq_true h1
   refine rk [(12, .i ((xs).length : Int)), (15, .bool (((xs).length : Int) == W))] 9 9 ⟨[(20, .bool (((xs).length : Int) == W)), (2, .f), (1, .p 0)], [(0, .cells (mm W xs ys) 25)], 1⟩ [(0 : Int) ≤ 0 ∧ 0 < ((2 : Nat) : Int), True, ((((m64 xs)).length : Nat) : Int) = ((xs).length : Int), True, (((xs).length : Int) == W) = (((xs).length : Int) == W), True] ⟨(by constructor <;> omega), trivial, (by simp), trivial, rfl, trivial, trivial⟩ ?_
   refine splitr 20 (x := (((xs).length : Int) == W)) (by kernel_rfl) (fun h2 => ?_) (fun h2 => ?_)
   ·
    replace h2 : (xs.length : Int) = W := eq_of_beq h2
    refine rk [(21, .i ((ys).length : Int)), (24, .bool (((ys).length : Int) == W))] 9 18 ⟨[(2, .bool (((ys).length : Int) == W))], [], 1⟩ [(0 : Int) ≤ 1 ∧ 1 < ((2 : Nat) : Int), True, ((((m64 ys)).length : Nat) : Int) = ((ys).length : Int), True, (((ys).length : Int) == W) = (((ys).length : Int) == W), True] ⟨(by constructor <;> omega), trivial, (by simp), trivial, rfl, trivial, trivial⟩ ?_
    refine en ?_
    refine an ?_
    refine xw_ret ?_
    by_cases h3 : (ys.length : Int) = W
    ·
     exact br (.bool (((ys).length : Int) == W)) (.t) (wkd [(((ys).length : Int) == W) = true] (by kernel_rfl) ⟨(by first | exact decide_eq_true (by omega) | exact decide_eq_false (by omega) | (simp; done) | (simp; omega) | (simp_all; done) | (simp_all; omega) | grind), trivial⟩) (Or.inl <| ⟨(by omega), rfl⟩)
    ·
     exact br (.bool (((ys).length : Int) == W)) (.f) (wkd [(((ys).length : Int) == W) = false] (by kernel_rfl) ⟨(by first | exact decide_eq_true (by omega) | exact decide_eq_false (by omega) | (simp; done) | (simp; omega) | (simp_all; done) | (simp_all; omega) | grind), trivial⟩) (Or.inr <| ⟨(by omega), rfl⟩)
   ·
    replace h2 : (xs.length : Int) ≠ W := ne_of_beq_false h2
    refine rk [] 9 18 ⟨[(2, .f)], [], 1⟩ [True] ⟨trivial, trivial⟩ ?_
    refine en ?_
    refine an ?_
    refine xw_ret ?_
    exact bs (.f) (Or.inr <| ⟨(by omega), rfl⟩)
  ·
   replace h1 : ¬ (W ≤ 4096) := of_decide_eq_false h1
   refine rk [] 18 9 ⟨[(2, .f)], [], 1⟩ [True, True] ⟨trivial, trivial, trivial⟩ ?_
   refine en ?_
   refine an ?_
   refine xw_ret ?_
   exact bs (.f) (Or.inr <| ⟨(by omega), rfl⟩)
 ·
  replace h0 : ¬ (16 ≤ W) := of_decide_eq_false h0
  refine rk [] 23 4 ⟨[(2, .f)], [], 1⟩ [True, True, True] ⟨trivial, trivial, trivial, trivial⟩ ?_
  refine en ?_
  refine an ?_
  refine xw_ret ?_
  exact bs (.f) (Or.inr <| ⟨(by omega), rfl⟩)

theorem rmright_1 (W : Int) (xs ys : List Int) (hp0 : -9223372036854775808 ≤ W ∧ W ≤ 9223372036854775807) (hp1 : 16 ≤ W ∧ W ≤ 4096 ∧ (xs.length : Int) = W ∧ (ys.length : Int) = W) : Pub Try.prog 24 [.agg (mm W xs ys)] (fun rv => rv = .t) := by
  refine (rmright W xs ys hp0).mono ?_
  rintro _ (⟨g0, rfl⟩ | ⟨g0, rfl⟩)
  all_goals first | rfl | (exfalso; first | omega | grind)

theorem rmright_2 (W : Int) (xs ys : List Int) (hp0 : -9223372036854775808 ≤ W ∧ W ≤ 9223372036854775807) (hp1 : ¬ (16 ≤ W ∧ W ≤ 4096 ∧ (xs.length : Int) = W ∧ (ys.length : Int) = W)) : Pub Try.prog 24 [.agg (mm W xs ys)] (fun rv => rv = .f) := by
  refine (rmright W xs ys hp0).mono ?_
  rintro _ (⟨g0, rfl⟩ | ⟨g0, rfl⟩)
  all_goals first | rfl | (exfalso; first | omega | grind)

theorem rright (s b l : Int) (hp0 : -9223372036854775808 ≤ s ∧ s ≤ 9223372036854775807) (hp1 : -9223372036854775808 ≤ b ∧ b ≤ 9223372036854775807) (hp2 : -9223372036854775808 ≤ l ∧ l ≤ 9223372036854775807) : Pub Try.prog 25 [.agg [.i s, .i b, .i l]] (fun rv => (((s = 0 ∨ s = 1) ∧ 0 ≤ l ∧ l ≤ 4096 ∧ 0 ≤ b ∧ b ≤ l) ∧ rv = .t) ∨ ((¬ ((s = 0 ∨ s = 1) ∧ 0 ≤ l ∧ l ≤ 4096 ∧ 0 ≤ b ∧ b ≤ l)) ∧ rv = .f)) := by
 refine pub_of TT_ok Try.func25 rfl (by decide) (Nat.le_of_ble_eq_true (by kernel_rfl)) (by kernel_rfl) ?_
 refine rg [] 2 ⟨[(2, .f), (1, .p 0)], [(0, .cells [.i s, .i b, .i l] 27)], 1⟩ [] trivial ?_
 refine xw_seq ?_
 refine reg ?_
 refine rk [(2, .bool (decide (0 ≤ s)))] 4 0 ⟨[(6, .bool (decide (0 ≤ s))), (2, .f), (1, .p 0)], [(0, .cells [.i s, .i b, .i l] 27)], 1⟩ [True, (decide (0 ≤ s)) = (decide (0 ≤ s))] ⟨trivial, rfl, trivial⟩ ?_
 refine splitr 6 (x := (decide (0 ≤ s))) (by kernel_rfl) (fun h0 => ?_) (fun h0 => ?_)
 ·
  replace h0 : 0 ≤ s := of_decide_eq_true h0
  refine rk [(6, .bool (decide (s ≤ 1)))] 5 4 ⟨[(11, .bool (decide (s ≤ 1))), (2, .f), (1, .p 0)], [(0, .cells [.i s, .i b, .i l] 27)], 1⟩ [True, (decide (s ≤ 1)) = (decide (s ≤ 1)), True] ⟨trivial, rfl, trivial, trivial⟩ ?_
  refine splitr 11 (x := (decide (s ≤ 1))) (by kernel_rfl) (fun h1 => ?_) (fun h1 => ?_)
  ·
   replace h1 : s ≤ 1 := of_decide_eq_true h1
   refine rk [(11, .bool (decide (0 ≤ b)))] 5 9 ⟨[(16, .bool (decide (0 ≤ b))), (2, .f), (1, .p 0)], [(0, .cells [.i s, .i b, .i l] 27)], 1⟩ [True, (decide (0 ≤ b)) = (decide (0 ≤ b)), True] ⟨trivial, rfl, trivial, trivial⟩ ?_
   refine splitr 16 (x := (decide (0 ≤ b))) (by kernel_rfl) (fun h2 => ?_) (fun h2 => ?_)
   ·
    replace h2 : 0 ≤ b := of_decide_eq_true h2
    refine rk [(18, .bool (decide (b ≤ l)))] 7 14 ⟨[(23, .bool (decide (b ≤ l))), (2, .f), (1, .p 0)], [(0, .cells [.i s, .i b, .i l] 27)], 1⟩ [True, True, (decide (b ≤ l)) = (decide (b ≤ l)), True] ⟨trivial, trivial, rfl, trivial, trivial⟩ ?_
    refine splitr 23 (x := (decide (b ≤ l))) (by kernel_rfl) (fun h3 => ?_) (fun h3 => ?_)
    ·
     replace h3 : b ≤ l := of_decide_eq_true h3
     refine rk [(23, .bool (decide (l ≤ 4096)))] 5 21 ⟨[(2, .bool (decide (l ≤ 4096)))], [], 1⟩ [True, (decide (l ≤ 4096)) = (decide (l ≤ 4096)), True] ⟨trivial, rfl, trivial, trivial⟩ ?_
     refine en ?_
     refine an ?_
     refine xw_ret ?_
     by_cases h4 : l ≤ 4096
     ·
      exact br (.bool (decide (l ≤ 4096))) (.t) (wkd [(decide (l ≤ 4096)) = true] (by kernel_rfl) ⟨(by first | exact decide_eq_true (by omega) | exact decide_eq_false (by omega) | (simp; done) | (simp; omega) | (simp_all; done) | (simp_all; omega) | grind), trivial⟩) (Or.inl <| ⟨(by omega), rfl⟩)
     ·
      exact br (.bool (decide (l ≤ 4096))) (.f) (wkd [(decide (l ≤ 4096)) = false] (by kernel_rfl) ⟨(by first | exact decide_eq_true (by omega) | exact decide_eq_false (by omega) | (simp; done) | (simp; omega) | (simp_all; done) | (simp_all; omega) | grind), trivial⟩) (Or.inr <| ⟨(by omega), rfl⟩)
    ·
     replace h3 : ¬ (b ≤ l) := of_decide_eq_false h3
     refine rk [] 5 21 ⟨[(2, .f)], [], 1⟩ [True] ⟨trivial, trivial⟩ ?_
     refine en ?_
     refine an ?_
     refine xw_ret ?_
     exact bs (.f) (Or.inr <| ⟨(by omega), rfl⟩)
   ·
    replace h2 : ¬ (0 ≤ b) := of_decide_eq_false h2
    refine rk [] 12 14 ⟨[(2, .f)], [], 1⟩ [True, True] ⟨trivial, trivial, trivial⟩ ?_
    refine en ?_
    refine an ?_
    refine xw_ret ?_
    exact bs (.f) (Or.inr <| ⟨(by omega), rfl⟩)
  ·
   replace h1 : ¬ (s ≤ 1) := of_decide_eq_false h1
   refine rk [] 17 9 ⟨[(2, .f)], [], 1⟩ [True, True, True] ⟨trivial, trivial, trivial, trivial⟩ ?_
   refine en ?_
   refine an ?_
   refine xw_ret ?_
   exact bs (.f) (Or.inr <| ⟨(by omega), rfl⟩)
 ·
  replace h0 : ¬ (0 ≤ s) := of_decide_eq_false h0
  refine rk [] 22 4 ⟨[(2, .f)], [], 1⟩ [True, True, True, True] ⟨trivial, trivial, trivial, trivial, trivial⟩ ?_
  refine en ?_
  refine an ?_
  refine xw_ret ?_
  exact bs (.f) (Or.inr <| ⟨(by omega), rfl⟩)

theorem rright_1 (s b l : Int) (hp0 : -9223372036854775808 ≤ s ∧ s ≤ 9223372036854775807) (hp1 : -9223372036854775808 ≤ b ∧ b ≤ 9223372036854775807) (hp2 : -9223372036854775808 ≤ l ∧ l ≤ 9223372036854775807) (hp3 : (s = 0 ∨ s = 1) ∧ 0 ≤ l ∧ l ≤ 4096 ∧ 0 ≤ b ∧ b ≤ l) : Pub Try.prog 25 [.agg [.i s, .i b, .i l]] (fun rv => rv = .t) := by
  refine (rright s b l hp0 hp1 hp2).mono ?_
  rintro _ (⟨g0, rfl⟩ | ⟨g0, rfl⟩)
  all_goals first | rfl | (exfalso; first | omega | grind)

theorem rright_2 (s b l : Int) (hp0 : -9223372036854775808 ≤ s ∧ s ≤ 9223372036854775807) (hp1 : -9223372036854775808 ≤ b ∧ b ≤ 9223372036854775807) (hp2 : -9223372036854775808 ≤ l ∧ l ≤ 9223372036854775807) (hp3 : ¬ ((s = 0 ∨ s = 1) ∧ 0 ≤ l ∧ l ≤ 4096 ∧ 0 ≤ b ∧ b ≤ l)) : Pub Try.prog 25 [.agg [.i s, .i b, .i l]] (fun rv => rv = .f) := by
  refine (rright s b l hp0 hp1 hp2).mono ?_
  rintro _ (⟨g0, rfl⟩ | ⟨g0, rfl⟩)
  all_goals first | rfl | (exfalso; first | omega | grind)

theorem eqwords (l : List Int) (hp0 : U64s l) (hp1 : (l.length : Int) * 8 ≤ 140737488355000) : Pub Try.prog 28 [.sl false 1 (m64 l), .sl false 1 (m64 l)] (fun rv => rv = .t) := by
 refine pub_of TT_ok Try.func28 rfl (by decide) (Nat.le_of_ble_eq_true (by kernel_rfl)) (by kernel_rfl) ?_
 refine rg [] 1 ⟨[(4, .f), (0, .sl false 1 (m64 l)), (1, .sl false 1 (m64 l))], [], 0⟩ [] trivial ?_
 refine xw_seq ?_
 refine rg [(1, .i ((l).length : Int)), (3, .i ((l).length : Int)), (4, .f)] 5 ⟨[(10, .f), (4, .f), (0, .sl false 1 (m64 l)), (1, .sl false 1 (m64 l))], [], 0⟩ [((((m64 l)).length : Nat) : Int) = ((l).length : Int), ((((m64 l)).length : Nat) : Int) = ((l).length : Int), (((l).length : Int) != ((l).length : Int)) = false] ⟨(by simp), (by simp), bne_eq_false_iff_eq.2 (by omega), trivial⟩ ?_
 refine cf ?_
 refine xw_skip ?_
 refine an ?_
 refine xw_seq ?_
 refine rg [] 1 ⟨[(5, .i 0), (4, .f), (0, .sl false 1 (m64 l)), (1, .sl false 1 (m64 l))], [], 0⟩ [] trivial ?_
 refine xw_block ?_
 refine xw_loop (α := {q : Int // (0 ≤ q) ∧ (q ≤ (l.length : Int))}) (fun p => ⟨[(5, .i p.1), (4, .f), (0, .sl false 1 (m64 l)), (1, .sl false 1 (m64 l))], [], 0⟩) (fun p => ((l.length : Int) - p.1).toNat) ⟨0, ⟨(by omega), (by omega)⟩⟩ (le_of [] [(0 : Int) = 0, false = false, (false = true → false = true), ((m64 l) : List SV) = (m64 l), (false = true → false = true), ((m64 l) : List SV) = (m64 l)] (by kernel_rfl) ⟨rfl, rfl, id, rfl, id, rfl, trivial⟩) ?_
 rintro ⟨i1, h0, h1⟩
 show XW _ _ _ _ _ _ ⟨[(5, .int .i64 i1), (4, .bool false), (0, .sl false 1 (m64 l)), (1, .sl false 1 (m64 l))], [], 0⟩
 refine xw_seq ?_
 refine rg [(2, .i ((l).length : Int)), (3, .bool (decide (i1 < ((l).length : Int))))] 4 ⟨[(14, .bool (decide (i1 < ((l).length : Int)))), (5, .i i1), (4, .f), (0, .sl false 1 (m64 l)), (1, .sl false 1 (m64 l))], [], 0⟩ [((((m64 l)).length : Nat) : Int) = ((l).length : Int), (decide (i1 < ((l).length : Int))) = (decide (i1 < ((l).length : Int)))] ⟨(by simp), rfl, trivial⟩ ?_
 refine xw_cond (b := (decide (i1 < ((l).length : Int)))) (by kernel_rfl) (fun h2 => ?_) (fun h2 => ?_)
 ·
  replace h2 : i1 < (l.length : Int) := of_decide_eq_true h2
  refine xw_skip ?_
  refine an ?_
  refine xw_seq ?_
  refine xw_block ?_
  refine xw_seq ?_
  refine dregk hmix (by kernel_rfl) ?_
  refine qr [(2, .u (ix l i1))] 3 0 [(19, .elt (.u (ix l i1))), (18, .i i1), (17, .sl false 1 (m64 l)), (14, .bool (decide (i1 < ((l).length : Int)))), (5, .i i1), (4, .f), (0, .sl false 1 (m64 l)), (1, .sl false 1 (m64 l))] [(0 : Int) ≤ i1 ∧ i1 < ((((m64 l)).length : Nat) : Int) ∧ ((m64 l))[(i1 : Int).toNat]? = some (.u (ix l i1))] ⟨(ix_ok (by omega) (by first | omega | (simp only [len_st]; omega) | (simp; done) | (simp; omega) | (simp [len_st, len_stx, len_sty, len_zx, len_zy]; omega))), trivial⟩ ?_
  have h3 : 0 ≤ (ix l i1) ∧ (ix l i1) ≤ 18446744073709551615 := U64s.ix (by first | assumption | exact U64s.st (by assumption) _ (by omega)) _
  refine qr [(6, .u (ix l i1))] 4 3 [(23, .elt (.u (ix l i1))), (22, .i i1), (21, .sl false 1 (m64 l)), (20, .u (ix l i1)), (19, .elt (.u (ix l i1))), (18, .i i1), (17, .sl false 1 (m64 l)), (14, .bool (decide (i1 < ((l).length : Int)))), (5, .i i1), (4, .f), (0, .sl false 1 (m64 l)), (1, .sl false 1 (m64 l))] [True, (0 : Int) ≤ i1 ∧ i1 < ((((m64 l)).length : Nat) : Int) ∧ ((m64 l))[(i1 : Int).toNat]? = some (.u (ix l i1))] ⟨trivial, (ix_ok (by omega) (by first | omega | (simp only [len_st]; omega) | (simp; done) | (simp; omega) | (simp [len_st, len_stx, len_sty, len_zx, len_zy]; omega))), trivial⟩ ?_
  have h4 : 0 ≤ (ix l i1) ∧ (ix l i1) ≤ 18446744073709551615 := U64s.ix (by first | assumption | exact U64s.st (by assumption) _ (by omega)) _
  refine qr [(8, .f)] 2 7 [(25, .f), (24, .u (ix l i1)), (23, .elt (.u (ix l i1))), (22, .i i1), (21, .sl false 1 (m64 l)), (20, .u (ix l i1)), (19, .elt (.u (ix l i1))), (18, .i i1), (17, .sl false 1 (m64 l)), (14, .bool (decide (i1 < ((l).length : Int)))), (5, .i i1), (4, .f), (0, .sl false 1 (m64 l)), (1, .sl false 1 (m64 l))] [True, ((ix l i1) != (ix l i1)) = false] ⟨trivial, bne_eq_false_iff_eq.2 (by omega), trivial⟩ ?_
  refine qen ?_
  refine an ?_
  refine cf ?_
  refine xw_skip ?_
  refine ib ?_
  refine an ?_
  refine re [(1, .i (i1 + 1))] 3 ⟨[(5, .i (i1 + 1)), (4, .f), (0, .sl false 1 (m64 l)), (1, .sl false 1 (m64 l))], [], 0⟩ [IntKind.i64.wrap (i1 + 1) = (i1 + 1)] ⟨i64_eq (by omega) (by omega), trivial⟩ ?_
  exact ag ⟨(i1 + 1), ⟨(by omega), (by omega)⟩⟩ (le_of [] [((i1 + 1) : Int) = (i1 + 1), false = false, (false = true → false = true), ((m64 l) : List SV) = (m64 l), (false = true → false = true), ((m64 l) : List SV) = (m64 l)] (by kernel_rfl) ⟨rfl, rfl, id, rfl, id, rfl, trivial⟩) (by show ((l.length : Int) - (i1 + 1)).toNat < ((l.length : Int) - i1).toNat; omega)
 ·
  replace h2 : ¬ (i1 < (l.length : Int)) := of_decide_eq_false h2
  refine xw_exit ?_
  refine an_exit ?_
  refine ag_exit ?_
  refine ib_same ?_
  refine an ?_
  refine rg [] 1 ⟨[(4, .t)], [], 0⟩ [] trivial ?_
  refine xw_ret ?_
  exact bs (.t) rfl

theorem eqints (l : List Int) (hp0 : I64s l) (hp1 : (l.length : Int) * 8 ≤ 140737488355000) : Pub Try.prog 26 [.sl false 1 (List.map (SV.int .i64) l), .sl false 1 (List.map (SV.int .i64) l)] (fun rv => rv = .t) := by
 refine pub_of TT_ok Try.func26 rfl (by decide) (Nat.le_of_ble_eq_true (by kernel_rfl)) (by kernel_rfl) ?_
 refine rg [] 1 ⟨[(4, .f), (0, .sl false 1 (List.map (SV.int .i64) l)), (1, .sl false 1 (List.map (SV.int .i64) l))], [], 0⟩ [] trivial ?_
 refine xw_seq ?_
 refine rg [(1, .i ((l).length : Int)), (3, .i ((l).length : Int)), (4, .f)] 5 ⟨[(10, .f), (4, .f), (0, .sl false 1 (List.map (SV.int .i64) l)), (1, .sl false 1 (List.map (SV.int .i64) l))], [], 0⟩ [((((List.map (SV.int .i64) l)).length : Nat) : Int) = ((l).length : Int), ((((List.map (SV.int .i64) l)).length : Nat) : Int) = ((l).length : Int), (((l).length : Int) != ((l).length : Int)) = false] ⟨(by simp), (by simp), bne_eq_false_iff_eq.2 (by omega), trivial⟩ ?_
 refine cf ?_
 refine xw_skip ?_
 refine an ?_
 refine xw_seq ?_
 refine rg [] 1 ⟨[(5, .i 0), (4, .f), (0, .sl false 1 (List.map (SV.int .i64) l)), (1, .sl false 1 (List.map (SV.int .i64) l))], [], 0⟩ [] trivial ?_
 refine xw_block ?_
 refine xw_loop (α := {q : Int // (0 ≤ q) ∧ (q ≤ (l.length : Int))}) (fun p => ⟨[(5, .i p.1), (4, .f), (0, .sl false 1 (List.map (SV.int .i64) l)), (1, .sl false 1 (List.map (SV.int .i64) l))], [], 0⟩) (fun p => ((l.length : Int) - p.1).toNat) ⟨0, ⟨(by omega), (by omega)⟩⟩ (le_of [] [(0 : Int) = 0, false = false, (false = true → false = true), ((List.map (SV.int .i64) l) : List SV) = (List.map (SV.int .i64) l), (false = true → false = true), ((List.map (SV.int .i64) l) : List SV) = (List.map (SV.int .i64) l)] (by kernel_rfl) ⟨rfl, rfl, id, rfl, id, rfl, trivial⟩) ?_
 rintro ⟨i1, h0, h1⟩
 show XW _ _ _ _ _ _ ⟨[(5, .int .i64 i1), (4, .bool false), (0, .sl false 1 (List.map (SV.int .i64) l)), (1, .sl false 1 (List.map (SV.int .i64) l))], [], 0⟩
 refine xw_seq ?_
 refine rg [(2, .i ((l).length : Int)), (3, .bool (decide (i1 < ((l).length : Int))))] 4 ⟨[(14, .bool (decide (i1 < ((l).length : Int)))), (5, .i i1), (4, .f), (0, .sl false 1 (List.map (SV.int .i64) l)), (1, .sl false 1 (List.map (SV.int .i64) l))], [], 0⟩ [((((List.map (SV.int .i64) l)).length : Nat) : Int) = ((l).length : Int), (decide (i1 < ((l).length : Int))) = (decide (i1 < ((l).length : Int)))] ⟨(by simp), rfl, trivial⟩ ?_
 refine xw_cond (b := (decide (i1 < ((l).length : Int)))) (by kernel_rfl) (fun h2 => ?_) (fun h2 => ?_)
 ·
  replace h2 : i1 < (l.length : Int) := of_decide_eq_true h2
  refine xw_skip ?_
  refine an ?_
  refine xw_seq ?_
  refine xw_block ?_
  refine xw_seq ?_
  refine dregk hmix (by kernel_rfl) ?_
  refine qr [(2, .i (ix l i1))] 3 0 [(19, .elt (.i (ix l i1))), (18, .i i1), (17, .sl false 1 (List.map (SV.int .i64) l)), (14, .bool (decide (i1 < ((l).length : Int)))), (5, .i i1), (4, .f), (0, .sl false 1 (List.map (SV.int .i64) l)), (1, .sl false 1 (List.map (SV.int .i64) l))] [(0 : Int) ≤ i1 ∧ i1 < ((((List.map (SV.int .i64) l)).length : Nat) : Int) ∧ ((List.map (SV.int .i64) l))[(i1 : Int).toNat]? = some (.i (ix l i1))] ⟨(ix_ok (by omega) (by first | omega | (simp only [len_st]; omega) | (simp; done) | (simp; omega) | (simp [len_st, len_stx, len_sty, len_zx, len_zy]; omega))), trivial⟩ ?_
  have h3 : -9223372036854775808 ≤ (ix l i1) ∧ (ix l i1) ≤ 9223372036854775807 := I64s.ix (by first | assumption | exact U64s.st (by assumption) _ (by omega)) _
  refine qr [(6, .i (ix l i1))] 4 3 [(23, .elt (.i (ix l i1))), (22, .i i1), (21, .sl false 1 (List.map (SV.int .i64) l)), (20, .i (ix l i1)), (19, .elt (.i (ix l i1))), (18, .i i1), (17, .sl false 1 (List.map (SV.int .i64) l)), (14, .bool (decide (i1 < ((l).length : Int)))), (5, .i i1), (4, .f), (0, .sl false 1 (List.map (SV.int .i64) l)), (1, .sl false 1 (List.map (SV.int .i64) l))] [True, (0 : Int) ≤ i1 ∧ i1 < ((((List.map (SV.int .i64) l)).length : Nat) : Int) ∧ ((List.map (SV.int .i64) l))[(i1 : Int).toNat]? = some (.i (ix l i1))] ⟨trivial, (ix_ok (by omega) (by first | omega | (simp only [len_st]; omega) | (simp; done) | (simp; omega) | (simp [len_st, len_stx, len_sty, len_zx, len_zy]; omega))), trivial⟩ ?_
  have h4 : -9223372036854775808 ≤ (ix l i1) ∧ (ix l i1) ≤ 9223372036854775807 := I64s.ix (by first | assumption | exact U64s.st (by assumption) _ (by omega)) _
  refine qr [(8, .f)] 2 7 [(25, .f), (24, .i (ix l i1)), (23, .elt (.i (ix l i1))), (22, .i i1), (21, .sl false 1 (List.map (SV.int .i64) l)), (20, .i (ix l i1)), (19, .elt (.i (ix l i1))), (18, .i i1), (17, .sl false 1 (List.map (SV.int .i64) l)), (14, .bool (decide (i1 < ((l).length : Int)))), (5, .i i1), (4, .f), (0, .sl false 1 (List.map (SV.int .i64) l)), (1, .sl false 1 (List.map (SV.int .i64) l))] [True, ((ix l i1) != (ix l i1)) = false] ⟨trivial, bne_eq_false_iff_eq.2 (by omega), trivial⟩ ?_
  refine qen ?_
  refine an ?_
  refine cf ?_
  refine xw_skip ?_
  refine ib ?_
  refine an ?_
  refine re [(1, .i (i1 + 1))] 3 ⟨[(5, .i (i1 + 1)), (4, .f), (0, .sl false 1 (List.map (SV.int .i64) l)), (1, .sl false 1 (List.map (SV.int .i64) l))], [], 0⟩ [IntKind.i64.wrap (i1 + 1) = (i1 + 1)] ⟨i64_eq (by omega) (by omega), trivial⟩ ?_
  exact ag ⟨(i1 + 1), ⟨(by omega), (by omega)⟩⟩ (le_of [] [((i1 + 1) : Int) = (i1 + 1), false = false, (false = true → false = true), ((List.map (SV.int .i64) l) : List SV) = (List.map (SV.int .i64) l), (false = true → false = true), ((List.map (SV.int .i64) l) : List SV) = (List.map (SV.int .i64) l)] (by kernel_rfl) ⟨rfl, rfl, id, rfl, id, rfl, trivial⟩) (by show ((l.length : Int) - (i1 + 1)).toNat < ((l.length : Int) - i1).toNat; omega)
 ·
  replace h2 : ¬ (i1 < (l.length : Int)) := of_decide_eq_false h2
  refine xw_exit ?_
  refine an_exit ?_
  refine ag_exit ?_
  refine ib_same ?_
  refine an ?_
  refine rg [] 1 ⟨[(4, .t)], [], 0⟩ [] trivial ?_
  refine xw_ret ?_
  exact bs (.t) rfl

theorem eqents (l : List Ent) (hp0 : Ents l) (hp1 : (l.length : Int) * 16 ≤ 140737488355000) : Pub Try.prog 46 [.sl false 2 (List.map entS l), .sl false 2 (List.map entS l)] (fun rv => rv = .t) := by
 refine pub_of TT_ok Try.func46 rfl (by decide) (Nat.le_of_ble_eq_true (by kernel_rfl)) (by kernel_rfl) ?_
 refine rg [] 1 ⟨[(4, .f), (0, .sl false 2 (List.map entS l)), (1, .sl false 2 (List.map entS l))], [], 0⟩ [] trivial ?_
 refine xw_seq ?_
 refine rg [(1, .i ((l).length : Int)), (3, .i ((l).length : Int)), (4, .f)] 5 ⟨[(10, .f), (4, .f), (0, .sl false 2 (List.map entS l)), (1, .sl false 2 (List.map entS l))], [], 0⟩ [((((List.map entS l)).length : Nat) : Int) = ((l).length : Int), ((((List.map entS l)).length : Nat) : Int) = ((l).length : Int), (((l).length : Int) != ((l).length : Int)) = false] ⟨(by simp), (by simp), bne_eq_false_iff_eq.2 (by omega), trivial⟩ ?_
 refine cf ?_
 refine xw_skip ?_
 refine an ?_
 refine xw_seq ?_
 refine rg [] 1 ⟨[(5, .i 0), (4, .f), (0, .sl false 2 (List.map entS l)), (1, .sl false 2 (List.map entS l))], [], 0⟩ [] trivial ?_
 refine xw_block ?_
 refine xw_loop (α := {q : Int // (0 ≤ q) ∧ (q ≤ (l.length : Int))}) (fun p => ⟨[(5, .i p.1), (4, .f), (0, .sl false 2 (List.map entS l)), (1, .sl false 2 (List.map entS l))], [], 0⟩) (fun p => ((l.length : Int) - p.1).toNat) ⟨0, ⟨(by omega), (by omega)⟩⟩ (le_of [] [(0 : Int) = 0, false = false, (false = true → false = true), ((List.map entS l) : List SV) = (List.map entS l), (false = true → false = true), ((List.map entS l) : List SV) = (List.map entS l)] (by kernel_rfl) ⟨rfl, rfl, id, rfl, id, rfl, trivial⟩) ?_
 rintro ⟨i1, h0, h1⟩
 show XW _ _ _ _ _ _ ⟨[(5, .int .i64 i1), (4, .bool false), (0, .sl false 2 (List.map entS l)), (1, .sl false 2 (List.map entS l))], [], 0⟩
 refine xw_seq ?_
 refine rg [(2, .i ((l).length : Int)), (3, .bool (decide (i1 < ((l).length : Int))))] 4 ⟨[(14, .bool (decide (i1 < ((l).length : Int)))), (5, .i i1), (4, .f), (0, .sl false 2 (List.map entS l)), (1, .sl false 2 (List.map entS l))], [], 0⟩ [((((List.map entS l)).length : Nat) : Int) = ((l).length : Int), (decide (i1 < ((l).length : Int))) = (decide (i1 < ((l).length : Int)))] ⟨(by simp), rfl, trivial⟩ ?_
 refine xw_cond (b := (decide (i1 < ((l).length : Int)))) (by kernel_rfl) (fun h2 => ?_) (fun h2 => ?_)
 ·
  replace h2 : i1 < (l.length : Int) := of_decide_eq_true h2
  refine xw_skip ?_
  refine an ?_
  refine xw_seq ?_
  refine xw_block ?_
  refine xw_seq ?_
  refine dregk hmix (by kernel_rfl) ?_
  refine qr [(2, .agg [.u (eO l i1), .i (eF l i1)])] 3 0 [(19, .elt (.agg [.u (eO l i1), .i (eF l i1)])), (18, .i i1), (17, .sl false 2 (List.map entS l)), (14, .bool (decide (i1 < ((l).length : Int)))), (5, .i i1), (4, .f), (0, .sl false 2 (List.map entS l)), (1, .sl false 2 (List.map entS l))] [(0 : Int) ≤ i1 ∧ i1 < ((((List.map entS l)).length : Nat) : Int) ∧ ((List.map entS l))[(i1 : Int).toNat]? = some (.agg [.u (eO l i1), .i (eF l i1)])] ⟨(ix_ent (by omega) (by first | omega | (simp only [len_st]; omega) | (simp; done) | (simp; omega) | (simp [len_st, len_stx, len_sty, len_zx, len_zy]; omega))), trivial⟩ ?_
  have h3 : (0 ≤ (eO l i1) ∧ (eO l i1) ≤ 18446744073709551615) ∧ (-9223372036854775808 ≤ (eF l i1) ∧ (eF l i1) ≤ 9223372036854775807) := Ents.at (by first | assumption | exact U64s.st (by assumption) _ (by omega)) _
  refine qr [(6, .agg [.u (eO l i1), .i (eF l i1)])] 4 3 [(23, .elt (.agg [.u (eO l i1), .i (eF l i1)])), (22, .i i1), (21, .sl false 2 (List.map entS l)), (20, .agg [.u (eO l i1), .i (eF l i1)]), (19, .elt (.agg [.u (eO l i1), .i (eF l i1)])), (18, .i i1), (17, .sl false 2 (List.map entS l)), (14, .bool (decide (i1 < ((l).length : Int)))), (5, .i i1), (4, .f), (0, .sl false 2 (List.map entS l)), (1, .sl false 2 (List.map entS l))] [True, (0 : Int) ≤ i1 ∧ i1 < ((((List.map entS l)).length : Nat) : Int) ∧ ((List.map entS l))[(i1 : Int).toNat]? = some (.agg [.u (eO l i1), .i (eF l i1)])] ⟨trivial, (ix_ent (by omega) (by first | omega | (simp only [len_st]; omega) | (simp; done) | (simp; omega) | (simp [len_st, len_stx, len_sty, len_zx, len_zy]; omega))), trivial⟩ ?_
  have h4 : (0 ≤ (eO l i1) ∧ (eO l i1) ≤ 18446744073709551615) ∧ (-9223372036854775808 ≤ (eF l i1) ∧ (eF l i1) ≤ 9223372036854775807) := Ents.at (by first | assumption | exact U64s.st (by assumption) _ (by omega)) _
  refine qr [(8, .f)] 2 7 [(25, .f), (24, .agg [.u (eO l i1), .i (eF l i1)]), (23, .elt (.agg [.u (eO l i1), .i (eF l i1)])), (22, .i i1), (21, .sl false 2 (List.map entS l)), (20, .agg [.u (eO l i1), .i (eF l i1)]), (19, .elt (.agg [.u (eO l i1), .i (eF l i1)])), (18, .i i1), (17, .sl false 2 (List.map entS l)), (14, .bool (decide (i1 < ((l).length : Int)))), (5, .i i1), (4, .f), (0, .sl false 2 (List.map entS l)), (1, .sl false 2 (List.map entS l))] [True, (!(((eO l i1) == (eO l i1)) && (((eF l i1) == (eF l i1)) && true))) = false] ⟨trivial, (by first | (simp <;> omega) | (simp only [Bool.not_eq_eq_eq_not, Bool.not_true, Bool.not_false, Bool.and_eq_true, beq_iff_eq, and_true]; and_intros <;> first | omega | assumption)), trivial⟩ ?_
  refine qen ?_
  refine an ?_
  refine cf ?_
  refine xw_skip ?_
  refine ib ?_
  refine an ?_
  refine re [(1, .i (i1 + 1))] 3 ⟨[(5, .i (i1 + 1)), (4, .f), (0, .sl false 2 (List.map entS l)), (1, .sl false 2 (List.map entS l))], [], 0⟩ [IntKind.i64.wrap (i1 + 1) = (i1 + 1)] ⟨i64_eq (by omega) (by omega), trivial⟩ ?_
  exact ag ⟨(i1 + 1), ⟨(by omega), (by omega)⟩⟩ (le_of [] [((i1 + 1) : Int) = (i1 + 1), false = false, (false = true → false = true), ((List.map entS l) : List SV) = (List.map entS l), (false = true → false = true), ((List.map entS l) : List SV) = (List.map entS l)] (by kernel_rfl) ⟨rfl, rfl, id, rfl, id, rfl, trivial⟩) (by show ((l.length : Int) - (i1 + 1)).toNat < ((l.length : Int) - i1).toNat; omega)
 ·
  replace h2 : ¬ (i1 < (l.length : Int)) := of_decide_eq_false h2
  refine xw_exit ?_
  refine an_exit ?_
  refine ag_exit ?_
  refine ib_same ?_
  refine an ?_
  refine rg [] 1 ⟨[(4, .t)], [], 0⟩ [] trivial ?_
  refine xw_ret ?_
  exact bs (.t) rfl

theorem eqops (l : List OpV) (hp0 : Ops l) (hp1 : (l.length : Int) * 64 ≤ 140737488355000) : Pub Try.prog 18 [.sl false 8 (List.map opS l), .sl false 8 (List.map opS l)] (fun rv => rv = .t) := by
 refine pub_of TT_ok Try.func18 rfl (by decide) (Nat.le_of_ble_eq_true (by kernel_rfl)) (by kernel_rfl) ?_
 refine rg [] 1 ⟨[(4, .f), (0, .sl false 8 (List.map opS l)), (1, .sl false 8 (List.map opS l))], [], 0⟩ [] trivial ?_
 refine xw_seq ?_
 refine rg [(1, .i ((l).length : Int)), (3, .i ((l).length : Int)), (4, .f)] 5 ⟨[(10, .f), (4, .f), (0, .sl false 8 (List.map opS l)), (1, .sl false 8 (List.map opS l))], [], 0⟩ [((((List.map opS l)).length : Nat) : Int) = ((l).length : Int), ((((List.map opS l)).length : Nat) : Int) = ((l).length : Int), (((l).length : Int) != ((l).length : Int)) = false] ⟨(by simp), (by simp), bne_eq_false_iff_eq.2 (by omega), trivial⟩ ?_
 refine cf ?_
 refine xw_skip ?_
 refine an ?_
 refine xw_seq ?_
 refine rg [] 1 ⟨[(5, .i 0), (4, .f), (0, .sl false 8 (List.map opS l)), (1, .sl false 8 (List.map opS l))], [], 0⟩ [] trivial ?_
 refine xw_block ?_
 refine xw_loop (α := {q : Int // (0 ≤ q) ∧ (q ≤ (l.length : Int))}) (fun p => ⟨[(5, .i p.1), (4, .f), (0, .sl false 8 (List.map opS l)), (1, .sl false 8 (List.map opS l))], [], 0⟩) (fun p => ((l.length : Int) - p.1).toNat) ⟨0, ⟨(by omega), (by omega)⟩⟩ (le_of [] [(0 : Int) = 0, false = false, (false = true → false = true), ((List.map opS l) : List SV) = (List.map opS l), (false = true → false = true), ((List.map opS l) : List SV) = (List.map opS l)] (by kernel_rfl) ⟨rfl, rfl, id, rfl, id, rfl, trivial⟩) ?_
 rintro ⟨i1, h0, h1⟩
 show XW _ _ _ _ _ _ ⟨[(5, .int .i64 i1), (4, .bool false), (0, .sl false 8 (List.map opS l)), (1, .sl false 8 (List.map opS l))], [], 0⟩
 refine xw_seq ?_
 refine rg [(2, .i ((l).length : Int)), (3, .bool (decide (i1 < ((l).length : Int))))] 4 ⟨[(14, .bool (decide (i1 < ((l).length : Int)))), (5, .i i1), (4, .f), (0, .sl false 8 (List.map opS l)), (1, .sl false 8 (List.map opS l))], [], 0⟩ [((((List.map opS l)).length : Nat) : Int) = ((l).length : Int), (decide (i1 < ((l).length : Int))) = (decide (i1 < ((l).length : Int)))] ⟨(by simp), rfl, trivial⟩ ?_
 refine xw_cond (b := (decide (i1 < ((l).length : Int)))) (by kernel_rfl) (fun h2 => ?_) (fun h2 => ?_)
 ·
  replace h2 : i1 < (l.length : Int) := of_decide_eq_true h2
  refine xw_skip ?_
  refine an ?_
  refine xw_seq ?_
  refine xw_block ?_
  refine xw_seq ?_
  refine dregk hmix (by kernel_rfl) ?_
  refine qr [(2, .agg [.i (OpV.k (opA l i1)), .i (OpV.h (opA l i1)), .i (OpV.i (opA l i1)), .i (OpV.j (opA l i1)), .u (OpV.v (opA l i1)), .i (OpV.t (opA l i1)), .i (OpV.l (opA l i1)), .u (OpV.m (opA l i1))])] 3 0 [(19, .elt (.agg [.i (OpV.k (opA l i1)), .i (OpV.h (opA l i1)), .i (OpV.i (opA l i1)), .i (OpV.j (opA l i1)), .u (OpV.v (opA l i1)), .i (OpV.t (opA l i1)), .i (OpV.l (opA l i1)), .u (OpV.m (opA l i1))])), (18, .i i1), (17, .sl false 8 (List.map opS l)), (14, .bool (decide (i1 < ((l).length : Int)))), (5, .i i1), (4, .f), (0, .sl false 8 (List.map opS l)), (1, .sl false 8 (List.map opS l))] [(0 : Int) ≤ i1 ∧ i1 < ((((List.map opS l)).length : Nat) : Int) ∧ ((List.map opS l))[(i1 : Int).toNat]? = some (.agg [.i (OpV.k (opA l i1)), .i (OpV.h (opA l i1)), .i (OpV.i (opA l i1)), .i (OpV.j (opA l i1)), .u (OpV.v (opA l i1)), .i (OpV.t (opA l i1)), .i (OpV.l (opA l i1)), .u (OpV.m (opA l i1))])] ⟨(ix_op (by omega) (by first | omega | (simp only [len_st]; omega) | (simp; done) | (simp; omega) | (simp [len_st, len_stx, len_sty, len_zx, len_zy]; omega))), trivial⟩ ?_
  have h3 : (-9223372036854775808 ≤ (OpV.k (opA l i1)) ∧ (OpV.k (opA l i1)) ≤ 9223372036854775807) := (Ops.at (by first | assumption | exact U64s.st (by assumption) _ (by omega)) _).1
  have h4 : (-9223372036854775808 ≤ (OpV.h (opA l i1)) ∧ (OpV.h (opA l i1)) ≤ 9223372036854775807) := (Ops.at (by first | assumption | exact U64s.st (by assumption) _ (by omega)) _).2.1
  have h5 : (-9223372036854775808 ≤ (OpV.i (opA l i1)) ∧ (OpV.i (opA l i1)) ≤ 9223372036854775807) := (Ops.at (by first | assumption | exact U64s.st (by assumption) _ (by omega)) _).2.2.1
  have h6 : (-9223372036854775808 ≤ (OpV.j (opA l i1)) ∧ (OpV.j (opA l i1)) ≤ 9223372036854775807) := (Ops.at (by first | assumption | exact U64s.st (by assumption) _ (by omega)) _).2.2.2.1
  have h7 : (0 ≤ (OpV.v (opA l i1)) ∧ (OpV.v (opA l i1)) ≤ 18446744073709551615) := (Ops.at (by first | assumption | exact U64s.st (by assumption) _ (by omega)) _).2.2.2.2.1
  have h8 : (-9223372036854775808 ≤ (OpV.t (opA l i1)) ∧ (OpV.t (opA l i1)) ≤ 9223372036854775807) := (Ops.at (by first | assumption | exact U64s.st (by assumption) _ (by omega)) _).2.2.2.2.2.1
  have h9 : (-9223372036854775808 ≤ (OpV.l (opA l i1)) ∧ (OpV.l (opA l i1)) ≤ 9223372036854775807) := (Ops.at (by first | assumption | exact U64s.st (by assumption) _ (by omega)) _).2.2.2.2.2.2.1
  have h10 : (0 ≤ (OpV.m (opA l i1)) ∧ (OpV.m (opA l i1)) ≤ 18446744073709551615) := (Ops.at (by first | assumption | exact U64s.st (by assumption) _ (by omega)) _).2.2.2.2.2.2.2
  refine qr [(6, .agg [.i (OpV.k (opA l i1)), .i (OpV.h (opA l i1)), .i (OpV.i (opA l i1)), .i (OpV.j (opA l i1)), .u (OpV.v (opA l i1)), .i (OpV.t (opA l i1)), .i (OpV.l (opA l i1)), .u (OpV.m (opA l i1))])] 4 3 [(23, .elt (.agg [.i (OpV.k (opA l i1)), .i (OpV.h (opA l i1)), .i (OpV.i (opA l i1)), .i (OpV.j (opA l i1)), .u (OpV.v (opA l i1)), .i (OpV.t (opA l i1)), .i (OpV.l (opA l i1)), .u (OpV.m (opA l i1))])), (22, .i i1), (21, .sl false 8 (List.map opS l)), (20, .agg [.i (OpV.k (opA l i1)), .i (OpV.h (opA l i1)), .i (OpV.i (opA l i1)), .i (OpV.j (opA l i1)), .u (OpV.v (opA l i1)), .i (OpV.t (opA l i1)), .i (OpV.l (opA l i1)), .u (OpV.m (opA l i1))]), (19, .elt (.agg [.i (OpV.k (opA l i1)), .i (OpV.h (opA l i1)), .i (OpV.i (opA l i1)), .i (OpV.j (opA l i1)), .u (OpV.v (opA l i1)), .i (OpV.t (opA l i1)), .i (OpV.l (opA l i1)), .u (OpV.m (opA l i1))])), (18, .i i1), (17, .sl false 8 (List.map opS l)), (14, .bool (decide (i1 < ((l).length : Int)))), (5, .i i1), (4, .f), (0, .sl false 8 (List.map opS l)), (1, .sl false 8 (List.map opS l))] [True, (0 : Int) ≤ i1 ∧ i1 < ((((List.map opS l)).length : Nat) : Int) ∧ ((List.map opS l))[(i1 : Int).toNat]? = some (.agg [.i (OpV.k (opA l i1)), .i (OpV.h (opA l i1)), .i (OpV.i (opA l i1)), .i (OpV.j (opA l i1)), .u (OpV.v (opA l i1)), .i (OpV.t (opA l i1)), .i (OpV.l (opA l i1)), .u (OpV.m (opA l i1))])] ⟨trivial, (ix_op (by omega) (by first | omega | (simp only [len_st]; omega) | (simp; done) | (simp; omega) | (simp [len_st, len_stx, len_sty, len_zx, len_zy]; omega))), trivial⟩ ?_
  have h11 : (-9223372036854775808 ≤ (OpV.k (opA l i1)) ∧ (OpV.k (opA l i1)) ≤ 9223372036854775807) := (Ops.at (by first | assumption | exact U64s.st (by assumption) _ (by omega)) _).1
  have h12 : (-9223372036854775808 ≤ (OpV.h (opA l i1)) ∧ (OpV.h (opA l i1)) ≤ 9223372036854775807) := (Ops.at (by first | assumption | exact U64s.st (by assumption) _ (by omega)) _).2.1
  have h13 : (-9223372036854775808 ≤ (OpV.i (opA l i1)) ∧ (OpV.i (opA l i1)) ≤ 9223372036854775807) := (Ops.at (by first | assumption | exact U64s.st (by assumption) _ (by omega)) _).2.2.1
  have h14 : (-9223372036854775808 ≤ (OpV.j (opA l i1)) ∧ (OpV.j (opA l i1)) ≤ 9223372036854775807) := (Ops.at (by first | assumption | exact U64s.st (by assumption) _ (by omega)) _).2.2.2.1
  have h15 : (0 ≤ (OpV.v (opA l i1)) ∧ (OpV.v (opA l i1)) ≤ 18446744073709551615) := (Ops.at (by first | assumption | exact U64s.st (by assumption) _ (by omega)) _).2.2.2.2.1
  have h16 : (-9223372036854775808 ≤ (OpV.t (opA l i1)) ∧ (OpV.t (opA l i1)) ≤ 9223372036854775807) := (Ops.at (by first | assumption | exact U64s.st (by assumption) _ (by omega)) _).2.2.2.2.2.1
  have h17 : (-9223372036854775808 ≤ (OpV.l (opA l i1)) ∧ (OpV.l (opA l i1)) ≤ 9223372036854775807) := (Ops.at (by first | assumption | exact U64s.st (by assumption) _ (by omega)) _).2.2.2.2.2.2.1
  have h18 : (0 ≤ (OpV.m (opA l i1)) ∧ (OpV.m (opA l i1)) ≤ 18446744073709551615) := (Ops.at (by first | assumption | exact U64s.st (by assumption) _ (by omega)) _).2.2.2.2.2.2.2
  refine qr [(8, .f)] 2 7 [(25, .f), (24, .agg [.i (OpV.k (opA l i1)), .i (OpV.h (opA l i1)), .i (OpV.i (opA l i1)), .i (OpV.j (opA l i1)), .u (OpV.v (opA l i1)), .i (OpV.t (opA l i1)), .i (OpV.l (opA l i1)), .u (OpV.m (opA l i1))]), (23, .elt (.agg [.i (OpV.k (opA l i1)), .i (OpV.h (opA l i1)), .i (OpV.i (opA l i1)), .i (OpV.j (opA l i1)), .u (OpV.v (opA l i1)), .i (OpV.t (opA l i1)), .i (OpV.l (opA l i1)), .u (OpV.m (opA l i1))])), (22, .i i1), (21, .sl false 8 (List.map opS l)), (20, .agg [.i (OpV.k (opA l i1)), .i (OpV.h (opA l i1)), .i (OpV.i (opA l i1)), .i (OpV.j (opA l i1)), .u (OpV.v (opA l i1)), .i (OpV.t (opA l i1)), .i (OpV.l (opA l i1)), .u (OpV.m (opA l i1))]), (19, .elt (.agg [.i (OpV.k (opA l i1)), .i (OpV.h (opA l i1)), .i (OpV.i (opA l i1)), .i (OpV.j (opA l i1)), .u (OpV.v (opA l i1)), .i (OpV.t (opA l i1)), .i (OpV.l (opA l i1)), .u (OpV.m (opA l i1))])), (18, .i i1), (17, .sl false 8 (List.map opS l)), (14, .bool (decide (i1 < ((l).length : Int)))), (5, .i i1), (4, .f), (0, .sl false 8 (List.map opS l)), (1, .sl false 8 (List.map opS l))] [True, (!(((OpV.k (opA l i1)) == (OpV.k (opA l i1))) && (((OpV.h (opA l i1)) == (OpV.h (opA l i1))) && (((OpV.i (opA l i1)) == (OpV.i (opA l i1))) && (((OpV.j (opA l i1)) == (OpV.j (opA l i1))) && (((OpV.v (opA l i1)) == (OpV.v (opA l i1))) && ((((OpV.t (opA l i1)) == (OpV.t (opA l i1))) && (((OpV.l (opA l i1)) == (OpV.l (opA l i1))) && (((OpV.m (opA l i1)) == (OpV.m (opA l i1))) && true))) && true))))))) = false] ⟨trivial, (by first | (simp <;> omega) | (simp only [Bool.not_eq_eq_eq_not, Bool.not_true, Bool.not_false, Bool.and_eq_true, beq_iff_eq, and_true]; and_intros <;> first | omega | assumption)), trivial⟩ ?_
  refine qen ?_
  refine an ?_
  refine cf ?_
  refine xw_skip ?_
  refine ib ?_
  refine an ?_
  refine re [(1, .i (i1 + 1))] 3 ⟨[(5, .i (i1 + 1)), (4, .f), (0, .sl false 8 (List.map opS l)), (1, .sl false 8 (List.map opS l))], [], 0⟩ [IntKind.i64.wrap (i1 + 1) = (i1 + 1)] ⟨i64_eq (by omega) (by omega), trivial⟩ ?_
  exact ag ⟨(i1 + 1), ⟨(by omega), (by omega)⟩⟩ (le_of [] [((i1 + 1) : Int) = (i1 + 1), false = false, (false = true → false = true), ((List.map opS l) : List SV) = (List.map opS l), (false = true → false = true), ((List.map opS l) : List SV) = (List.map opS l)] (by kernel_rfl) ⟨rfl, rfl, id, rfl, id, rfl, trivial⟩) (by show ((l.length : Int) - (i1 + 1)).toNat < ((l.length : Int) - i1).toNat; omega)
 ·
  replace h2 : ¬ (i1 < (l.length : Int)) := of_decide_eq_false h2
  refine xw_exit ?_
  refine an_exit ?_
  refine ag_exit ?_
  refine ib_same ?_
  refine an ?_
  refine rg [] 1 ⟨[(4, .t)], [], 0⟩ [] trivial ?_
  refine xw_ret ?_
  exact bs (.t) rfl

theorem eqans (l : List AnsV) (hp0 : Anss l) (hp1 : (l.length : Int) * 24 ≤ 140737488355000) : Pub Try.prog 17 [.sl false 3 (List.map ansS l), .sl false 3 (List.map ansS l)] (fun rv => rv = .t) := by
 refine pub_of TT_ok Try.func17 rfl (by decide) (Nat.le_of_ble_eq_true (by kernel_rfl)) (by kernel_rfl) ?_
 refine rg [] 1 ⟨[(4, .f), (0, .sl false 3 (List.map ansS l)), (1, .sl false 3 (List.map ansS l))], [], 0⟩ [] trivial ?_
 refine xw_seq ?_
 refine rg [(1, .i ((l).length : Int)), (3, .i ((l).length : Int)), (4, .f)] 5 ⟨[(10, .f), (4, .f), (0, .sl false 3 (List.map ansS l)), (1, .sl false 3 (List.map ansS l))], [], 0⟩ [((((List.map ansS l)).length : Nat) : Int) = ((l).length : Int), ((((List.map ansS l)).length : Nat) : Int) = ((l).length : Int), (((l).length : Int) != ((l).length : Int)) = false] ⟨(by simp), (by simp), bne_eq_false_iff_eq.2 (by omega), trivial⟩ ?_
 refine cf ?_
 refine xw_skip ?_
 refine an ?_
 refine xw_seq ?_
 refine rg [] 1 ⟨[(5, .i 0), (4, .f), (0, .sl false 3 (List.map ansS l)), (1, .sl false 3 (List.map ansS l))], [], 0⟩ [] trivial ?_
 refine xw_block ?_
 refine xw_loop (α := {q : Int // (0 ≤ q) ∧ (q ≤ (l.length : Int))}) (fun p => ⟨[(5, .i p.1), (4, .f), (0, .sl false 3 (List.map ansS l)), (1, .sl false 3 (List.map ansS l))], [], 0⟩) (fun p => ((l.length : Int) - p.1).toNat) ⟨0, ⟨(by omega), (by omega)⟩⟩ (le_of [] [(0 : Int) = 0, false = false, (false = true → false = true), ((List.map ansS l) : List SV) = (List.map ansS l), (false = true → false = true), ((List.map ansS l) : List SV) = (List.map ansS l)] (by kernel_rfl) ⟨rfl, rfl, id, rfl, id, rfl, trivial⟩) ?_
 rintro ⟨i1, h0, h1⟩
 show XW _ _ _ _ _ _ ⟨[(5, .int .i64 i1), (4, .bool false), (0, .sl false 3 (List.map ansS l)), (1, .sl false 3 (List.map ansS l))], [], 0⟩
 refine xw_seq ?_
 refine rg [(2, .i ((l).length : Int)), (3, .bool (decide (i1 < ((l).length : Int))))] 4 ⟨[(14, .bool (decide (i1 < ((l).length : Int)))), (5, .i i1), (4, .f), (0, .sl false 3 (List.map ansS l)), (1, .sl false 3 (List.map ansS l))], [], 0⟩ [((((List.map ansS l)).length : Nat) : Int) = ((l).length : Int), (decide (i1 < ((l).length : Int))) = (decide (i1 < ((l).length : Int)))] ⟨(by simp), rfl, trivial⟩ ?_
 refine xw_cond (b := (decide (i1 < ((l).length : Int)))) (by kernel_rfl) (fun h2 => ?_) (fun h2 => ?_)
 ·
  replace h2 : i1 < (l.length : Int) := of_decide_eq_true h2
  refine xw_skip ?_
  refine an ?_
  refine xw_seq ?_
  refine xw_block ?_
  refine xw_seq ?_
  refine dregk hmix (by kernel_rfl) ?_
  refine qr [(2, .agg [.i (AnsV.e (ansA l i1)), .u (AnsV.v (ansA l i1)), .bool (AnsV.y (ansA l i1))])] 3 0 [(19, .elt (.agg [.i (AnsV.e (ansA l i1)), .u (AnsV.v (ansA l i1)), .bool (AnsV.y (ansA l i1))])), (18, .i i1), (17, .sl false 3 (List.map ansS l)), (14, .bool (decide (i1 < ((l).length : Int)))), (5, .i i1), (4, .f), (0, .sl false 3 (List.map ansS l)), (1, .sl false 3 (List.map ansS l))] [(0 : Int) ≤ i1 ∧ i1 < ((((List.map ansS l)).length : Nat) : Int) ∧ ((List.map ansS l))[(i1 : Int).toNat]? = some (.agg [.i (AnsV.e (ansA l i1)), .u (AnsV.v (ansA l i1)), .bool (AnsV.y (ansA l i1))])] ⟨(ix_ans (by omega) (by first | omega | (simp only [len_st]; omega) | (simp; done) | (simp; omega) | (simp [len_st, len_stx, len_sty, len_zx, len_zy]; omega))), trivial⟩ ?_
  have h3 : (-9223372036854775808 ≤ (AnsV.e (ansA l i1)) ∧ (AnsV.e (ansA l i1)) ≤ 9223372036854775807) := (Anss.at (by first | assumption | exact U64s.st (by assumption) _ (by omega)) _).1
  have h4 : (0 ≤ (AnsV.v (ansA l i1)) ∧ (AnsV.v (ansA l i1)) ≤ 18446744073709551615) := (Anss.at (by first | assumption | exact U64s.st (by assumption) _ (by omega)) _).2
  refine qr [(6, .agg [.i (AnsV.e (ansA l i1)), .u (AnsV.v (ansA l i1)), .bool (AnsV.y (ansA l i1))])] 4 3 [(23, .elt (.agg [.i (AnsV.e (ansA l i1)), .u (AnsV.v (ansA l i1)), .bool (AnsV.y (ansA l i1))])), (22, .i i1), (21, .sl false 3 (List.map ansS l)), (20, .agg [.i (AnsV.e (ansA l i1)), .u (AnsV.v (ansA l i1)), .bool (AnsV.y (ansA l i1))]), (19, .elt (.agg [.i (AnsV.e (ansA l i1)), .u (AnsV.v (ansA l i1)), .bool (AnsV.y (ansA l i1))])), (18, .i i1), (17, .sl false 3 (List.map ansS l)), (14, .bool (decide (i1 < ((l).length : Int)))), (5, .i i1), (4, .f), (0, .sl false 3 (List.map ansS l)), (1, .sl false 3 (List.map ansS l))] [True, (0 : Int) ≤ i1 ∧ i1 < ((((List.map ansS l)).length : Nat) : Int) ∧ ((List.map ansS l))[(i1 : Int).toNat]? = some (.agg [.i (AnsV.e (ansA l i1)), .u (AnsV.v (ansA l i1)), .bool (AnsV.y (ansA l i1))])] ⟨trivial, (ix_ans (by omega) (by first | omega | (simp only [len_st]; omega) | (simp; done) | (simp; omega) | (simp [len_st, len_stx, len_sty, len_zx, len_zy]; omega))), trivial⟩ ?_
  have h5 : (-9223372036854775808 ≤ (AnsV.e (ansA l i1)) ∧ (AnsV.e (ansA l i1)) ≤ 9223372036854775807) := (Anss.at (by first | assumption | exact U64s.st (by assumption) _ (by omega)) _).1
  have h6 : (0 ≤ (AnsV.v (ansA l i1)) ∧ (AnsV.v (ansA l i1)) ≤ 18446744073709551615) := (Anss.at (by first | assumption | exact U64s.st (by assumption) _ (by omega)) _).2
  refine qr [(8, .f)] 2 7 [(25, .f), (24, .agg [.i (AnsV.e (ansA l i1)), .u (AnsV.v (ansA l i1)), .bool (AnsV.y (ansA l i1))]), (23, .elt (.agg [.i (AnsV.e (ansA l i1)), .u (AnsV.v (ansA l i1)), .bool (AnsV.y (ansA l i1))])), (22, .i i1), (21, .sl false 3 (List.map ansS l)), (20, .agg [.i (AnsV.e (ansA l i1)), .u (AnsV.v (ansA l i1)), .bool (AnsV.y (ansA l i1))]), (19, .elt (.agg [.i (AnsV.e (ansA l i1)), .u (AnsV.v (ansA l i1)), .bool (AnsV.y (ansA l i1))])), (18, .i i1), (17, .sl false 3 (List.map ansS l)), (14, .bool (decide (i1 < ((l).length : Int)))), (5, .i i1), (4, .f), (0, .sl false 3 (List.map ansS l)), (1, .sl false 3 (List.map ansS l))] [True, (!(((AnsV.e (ansA l i1)) == (AnsV.e (ansA l i1))) && (((AnsV.v (ansA l i1)) == (AnsV.v (ansA l i1))) && (((AnsV.y (ansA l i1)) == (AnsV.y (ansA l i1))) && true)))) = false] ⟨trivial, (by first | (simp <;> omega) | (simp only [Bool.not_eq_eq_eq_not, Bool.not_true, Bool.not_false, Bool.and_eq_true, beq_iff_eq, and_true]; and_intros <;> first | omega | assumption)), trivial⟩ ?_
  refine qen ?_
  refine an ?_
  refine cf ?_
  refine xw_skip ?_
  refine ib ?_
  refine an ?_
  refine re [(1, .i (i1 + 1))] 3 ⟨[(5, .i (i1 + 1)), (4, .f), (0, .sl false 3 (List.map ansS l)), (1, .sl false 3 (List.map ansS l))], [], 0⟩ [IntKind.i64.wrap (i1 + 1) = (i1 + 1)] ⟨i64_eq (by omega) (by omega), trivial⟩ ?_
  exact ag ⟨(i1 + 1), ⟨(by omega), (by omega)⟩⟩ (le_of [] [((i1 + 1) : Int) = (i1 + 1), false = false, (false = true → false = true), ((List.map ansS l) : List SV) = (List.map ansS l), (false = true → false = true), ((List.map ansS l) : List SV) = (List.map ansS l)] (by kernel_rfl) ⟨rfl, rfl, id, rfl, id, rfl, trivial⟩) (by show ((l.length : Int) - (i1 + 1)).toNat < ((l.length : Int) - i1).toNat; omega)
 ·
  replace h2 : ¬ (i1 < (l.length : Int)) := of_decide_eq_false h2
  refine xw_exit ?_
  refine an_exit ?_
  refine ag_exit ?_
  refine ib_same ?_
  refine an ?_
  refine rg [] 1 ⟨[(4, .t)], [], 0⟩ [] trivial ?_
  refine xw_ret ?_
  exact bs (.t) rfl

theorem eqmem (W : Int) (xs ys : List Int) (hp0 : -9223372036854775808 ≤ W ∧ W ≤ 9223372036854775807) (hp1 : U64s xs) (hp2 : U64s ys) (hp3 : (xs.length : Int) * 8 ≤ 140737488355000) (hp4 : (ys.length : Int) * 8 ≤ 140737488355000) : Pub Try.prog 15 [.agg (mm W xs ys), .agg (mm W xs ys)] (fun rv => rv = .t) := by
 refine pub_of TT_ok Try.func15 rfl (by decide) (Nat.le_of_ble_eq_true (by kernel_rfl)) (by kernel_rfl) ?_
 refine rg [] 3 ⟨[(4, .f), (3, .p 1), (2, .p 0)], [(1, .cells (mm W xs ys) 25), (0, .cells (mm W xs ys) 25)], 2⟩ [] trivial ?_
 refine xw_seq ?_
 refine reg ?_
 refine rk [] 6 0 ⟨[(12, .sl false 1 (m64 xs)), (9, .sl false 1 (m64 xs)), (4, .f), (3, .p 1), (2, .p 0)], [(1, .cells (mm W xs ys) 25), (0, .cells (mm W xs ys) 25)], 2⟩ [(0 : Int) ≤ 0 ∧ 0 < ((2 : Nat) : Int), True, (0 : Int) ≤ 0 ∧ 0 < ((2 : Nat) : Int), True] ⟨(by constructor <;> omega), trivial, (by constructor <;> omega), trivial, trivial⟩ ?_
 refine pc (eqwords xs ‹_› (by omega)) ?_
 refine rk [] 1 7 ⟨[(5, .t), (4, .f), (3, .p 1), (2, .p 0)], [(1, .cells (mm W xs ys) 25), (0, .cells (mm W xs ys) 25)], 2⟩ [] trivial ?_
 refine en ?_
 refine an ?_
 refine xw_seq ?_
 refine reg ?_
 refine rk [] 6 0 ⟨[(19, .sl false 1 (m64 ys)), (16, .sl false 1 (m64 ys)), (5, .t), (4, .f), (3, .p 1), (2, .p 0)], [(1, .cells (mm W xs ys) 25), (0, .cells (mm W xs ys) 25)], 2⟩ [(0 : Int) ≤ 1 ∧ 1 < ((2 : Nat) : Int), True, (0 : Int) ≤ 1 ∧ 1 < ((2 : Nat) : Int), True] ⟨(by constructor <;> omega), trivial, (by constructor <;> omega), trivial, trivial⟩ ?_
 refine pc (eqwords ys ‹_› (by omega)) ?_
 refine rk [] 1 7 ⟨[(6, .t), (5, .t), (4, .f), (3, .p 1), (2, .p 0)], [(1, .cells (mm W xs ys) 25), (0, .cells (mm W xs ys) 25)], 2⟩ [] trivial ?_
 refine en ?_
 refine an ?_
 refine rg [(9, .t)] 12 ⟨[(4, .t)], [], 2⟩ [True, True, True, (W == W) = true, True] ⟨trivial, trivial, trivial, beq_iff_eq.2 (by omega), trivial, trivial⟩ ?_
 refine xw_ret ?_
 exact bs (.t) rfl

theorem eqthread (st : List Int) (b0 b1 : Int) (lg : List Ent) (lf : List OpV) (pd : List Ent) (wt : Bool) (dn : List AnsV) (hp0 : U64s st) (hp1 : (st.length : Int) * 8 ≤ 140737488355000) (hp2 : -9223372036854775808 ≤ b0 ∧ b0 ≤ 9223372036854775807) (hp3 : -9223372036854775808 ≤ b1 ∧ b1 ≤ 9223372036854775807) (hp4 : Ents lg) (hp5 : (lg.length : Int) * 16 ≤ 140737488355000) (hp6 : Ops lf) (hp7 : (lf.length : Int) * 64 ≤ 140737488355000) (hp8 : Ents pd) (hp9 : (pd.length : Int) * 16 ≤ 140737488355000) (hp10 : Anss dn) (hp11 : (dn.length : Int) * 24 ≤ 140737488355000) : Pub Try.prog 27 [.agg [.sl false 1 (m64 st), .i b0, .i b1, .sl false 2 (List.map entS lg), .sl false 8 (List.map opS lf), .sl false 2 (List.map entS pd), .bool wt, .sl false 3 (List.map ansS dn)], .agg [.sl false 1 (m64 st), .i b0, .i b1, .sl false 2 (List.map entS lg), .sl false 8 (List.map opS lf), .sl false 2 (List.map entS pd), .bool wt, .sl false 3 (List.map ansS dn)]] (fun rv => rv = .t) := by
 refine pub_of TT_ok Try.func27 rfl (by decide) (Nat.le_of_ble_eq_true (by kernel_rfl)) (by kernel_rfl) ?_
 refine rg [] 3 ⟨[(4, .f), (3, .p 1), (2, .p 0)], [(1, .cells [.sl false 1 (m64 st), .i b0, .i b1, .sl false 2 (List.map entS lg), .sl false 8 (List.map opS lf), .sl false 2 (List.map entS pd), .bool wt, .sl false 3 (List.map ansS dn)] 44), (0, .cells [.sl false 1 (m64 st), .i b0, .i b1, .sl false 2 (List.map entS lg), .sl false 8 (List.map opS lf), .sl false 2 (List.map entS pd), .bool wt, .sl false 3 (List.map ansS dn)] 44)], 2⟩ [] trivial ?_
 refine xw_seq ?_
 refine reg ?_
 refine rk [] 4 0 ⟨[(10, .sl false 1 (m64 st)), (8, .sl false 1 (m64 st)), (4, .f), (3, .p 1), (2, .p 0)], [(1, .cells [.sl false 1 (m64 st), .i b0, .i b1, .sl false 2 (List.map entS lg), .sl false 8 (List.map opS lf), .sl false 2 (List.map entS pd), .bool wt, .sl false 3 (List.map ansS dn)] 44), (0, .cells [.sl false 1 (m64 st), .i b0, .i b1, .sl false 2 (List.map entS lg), .sl false 8 (List.map opS lf), .sl false 2 (List.map entS pd), .bool wt, .sl false 3 (List.map ansS dn)] 44)], 2⟩ [True, True] ⟨trivial, trivial, trivial⟩ ?_
 refine pc (eqwords st ‹_› (by omega)) ?_
 refine rk [] 5 5 ⟨[(16, .sl false 2 (List.map entS lg)), (14, .sl false 2 (List.map entS lg)), (12, .t), (4, .f), (3, .p 1), (2, .p 0)], [(1, .cells [.sl false 1 (m64 st), .i b0, .i b1, .sl false 2 (List.map entS lg), .sl false 8 (List.map opS lf), .sl false 2 (List.map entS pd), .bool wt, .sl false 3 (List.map ansS dn)] 44), (0, .cells [.sl false 1 (m64 st), .i b0, .i b1, .sl false 2 (List.map entS lg), .sl false 8 (List.map opS lf), .sl false 2 (List.map entS pd), .bool wt, .sl false 3 (List.map ansS dn)] 44)], 2⟩ [True, True] ⟨trivial, trivial, trivial⟩ ?_
 refine pc (eqents lg ‹_› (by omega)) ?_
 refine rk [] 6 11 ⟨[(23, .sl false 2 (List.map entS pd)), (21, .sl false 2 (List.map entS pd)), (19, .t), (4, .f), (3, .p 1), (2, .p 0)], [(1, .cells [.sl false 1 (m64 st), .i b0, .i b1, .sl false 2 (List.map entS lg), .sl false 8 (List.map opS lf), .sl false 2 (List.map entS pd), .bool wt, .sl false 3 (List.map ansS dn)] 44), (0, .cells [.sl false 1 (m64 st), .i b0, .i b1, .sl false 2 (List.map entS lg), .sl false 8 (List.map opS lf), .sl false 2 (List.map entS pd), .bool wt, .sl false 3 (List.map ansS dn)] 44)], 2⟩ [True, True, True] ⟨trivial, trivial, trivial, trivial⟩ ?_
 refine pc (eqents pd ‹_› (by omega)) ?_
 refine rk [] 2 18 ⟨[(5, .t), (4, .f), (3, .p 1), (2, .p 0)], [(1, .cells [.sl false 1 (m64 st), .i b0, .i b1, .sl false 2 (List.map entS lg), .sl false 8 (List.map opS lf), .sl false 2 (List.map entS pd), .bool wt, .sl false 3 (List.map ansS dn)] 44), (0, .cells [.sl false 1 (m64 st), .i b0, .i b1, .sl false 2 (List.map entS lg), .sl false 8 (List.map opS lf), .sl false 2 (List.map entS pd), .bool wt, .sl false 3 (List.map ansS dn)] 44)], 2⟩ [True] ⟨trivial, trivial⟩ ?_
 refine en ?_
 refine an ?_
 refine xw_seq ?_
 refine reg ?_
 refine rk [] 4 0 ⟨[(29, .sl false 8 (List.map opS lf)), (27, .sl false 8 (List.map opS lf)), (5, .t), (4, .f), (3, .p 1), (2, .p 0)], [(1, .cells [.sl false 1 (m64 st), .i b0, .i b1, .sl false 2 (List.map entS lg), .sl false 8 (List.map opS lf), .sl false 2 (List.map entS pd), .bool wt, .sl false 3 (List.map ansS dn)] 44), (0, .cells [.sl false 1 (m64 st), .i b0, .i b1, .sl false 2 (List.map entS lg), .sl false 8 (List.map opS lf), .sl false 2 (List.map entS pd), .bool wt, .sl false 3 (List.map ansS dn)] 44)], 2⟩ [True, True] ⟨trivial, trivial, trivial⟩ ?_
 refine pc (eqops lf ‹_› (by omega)) ?_
 refine rk [] 5 5 ⟨[(35, .sl false 3 (List.map ansS dn)), (33, .sl false 3 (List.map ansS dn)), (31, .t), (5, .t), (4, .f), (3, .p 1), (2, .p 0)], [(1, .cells [.sl false 1 (m64 st), .i b0, .i b1, .sl false 2 (List.map entS lg), .sl false 8 (List.map opS lf), .sl false 2 (List.map entS pd), .bool wt, .sl false 3 (List.map ansS dn)] 44), (0, .cells [.sl false 1 (m64 st), .i b0, .i b1, .sl false 2 (List.map entS lg), .sl false 8 (List.map opS lf), .sl false 2 (List.map entS pd), .bool wt, .sl false 3 (List.map ansS dn)] 44)], 2⟩ [True, True] ⟨trivial, trivial, trivial⟩ ?_
 refine pc (eqans dn ‹_› (by omega)) ?_
 refine rk [] 2 11 ⟨[(6, .t), (5, .t), (4, .f), (3, .p 1), (2, .p 0)], [(1, .cells [.sl false 1 (m64 st), .i b0, .i b1, .sl false 2 (List.map entS lg), .sl false 8 (List.map opS lf), .sl false 2 (List.map entS pd), .bool wt, .sl false 3 (List.map ansS dn)] 44), (0, .cells [.sl false 1 (m64 st), .i b0, .i b1, .sl false 2 (List.map entS lg), .sl false 8 (List.map opS lf), .sl false 2 (List.map entS pd), .bool wt, .sl false 3 (List.map ansS dn)] 44)], 2⟩ [True] ⟨trivial, trivial⟩ ?_
 refine en ?_
 refine an ?_
 refine rg [(9, .t), (16, .t)] 19 ⟨[(4, .t)], [], 2⟩ [True, True, True, ((b0 == b0) && ((b1 == b1) && true)) = true, True, True, True, (wt == wt) = true, True] ⟨trivial, trivial, trivial, (by first | (simp <;> omega) | (simp only [Bool.not_eq_eq_eq_not, Bool.not_true, Bool.not_false, Bool.and_eq_true, beq_iff_eq, and_true]; and_intros <;> first | omega | assumption)), trivial, trivial, trivial, (by simp), trivial, trivial⟩ ?_
 refine xw_ret ?_
 exact bs (.t) rfl

theorem eqheap (W : Int) (xs ys : List Int) (f0 f1 f2 t0 t1 t2 sz lm : Int) (ts : List Th) (ph sc fl : Int) (os : List Int) (brk : Int) (hp0 : -9223372036854775808 ≤ W ∧ W ≤ 9223372036854775807) (hp1 : U64s xs) (hp2 : U64s ys) (hp3 : -9223372036854775808 ≤ f0 ∧ f0 ≤ 9223372036854775807) (hp4 : -9223372036854775808 ≤ f1 ∧ f1 ≤ 9223372036854775807) (hp5 : -9223372036854775808 ≤ f2 ∧ f2 ≤ 9223372036854775807) (hp6 : -9223372036854775808 ≤ t0 ∧ t0 ≤ 9223372036854775807) (hp7 : -9223372036854775808 ≤ t1 ∧ t1 ≤ 9223372036854775807) (hp8 : -9223372036854775808 ≤ t2 ∧ t2 ≤ 9223372036854775807) (hp9 : -9223372036854775808 ≤ sz ∧ sz ≤ 9223372036854775807) (hp10 : -9223372036854775808 ≤ lm ∧ lm ≤ 9223372036854775807) (hp11 : Ths ts) (hp12 : (ts.length : Int) * 144 ≤ 140737488355000) (hp13 : -9223372036854775808 ≤ ph ∧ ph ≤ 9223372036854775807) (hp14 : -9223372036854775808 ≤ sc ∧ sc ≤ 9223372036854775807) (hp15 : -9223372036854775808 ≤ fl ∧ fl ≤ 9223372036854775807) (hp16 : I64s os) (hp17 : (os.length : Int) * 8 ≤ 140737488355000) (hp18 : -9223372036854775808 ≤ brk ∧ brk ≤ 9223372036854775807) (hp19 : (xs.length : Int) * 8 ≤ 140737488355000) (hp20 : (ys.length : Int) * 8 ≤ 140737488355000) : Pub Try.prog 13 [.agg (mr W xs ys [.i f0, .i f1, .i f2, .i t0, .i t1, .i t2, .i sz, .i lm, .sl false 8 (List.map thS ts), .i ph, .i sc, .i fl, .sl false 1 (List.map (SV.int .i64) os), .i brk]), .agg (mr W xs ys [.i f0, .i f1, .i f2, .i t0, .i t1, .i t2, .i sz, .i lm, .sl false 8 (List.map thS ts), .i ph, .i sc, .i fl, .sl false 1 (List.map (SV.int .i64) os), .i brk])] (fun rv => rv = .t) := by
 refine pub_of TT_ok Try.func13 rfl (by decide) (Nat.le_of_ble_eq_true (by kernel_rfl)) (by kernel_rfl) ?_
 refine rg [] 3 ⟨[(4, .f), (3, .p 1), (2, .p 0)], [(1, .cells (mr W xs ys [.i f0, .i f1, .i f2, .i t0, .i t1, .i t2, .i sz, .i lm, .sl false 8 (List.map thS ts), .i ph, .i sc, .i fl, .sl false 1 (List.map (SV.int .i64) os), .i brk]) 32), (0, .cells (mr W xs ys [.i f0, .i f1, .i f2, .i t0, .i t1, .i t2, .i sz, .i lm, .sl false 8 (List.map thS ts), .i ph, .i sc, .i fl, .sl false 1 (List.map (SV.int .i64) os), .i brk]) 32)], 2⟩ [] trivial ?_
 refine xw_seq ?_
 refine reg ?_
 refine rk [] 4 0 ⟨[(12, .agg (mm W xs ys)), (10, .agg (mm W xs ys)), (4, .f), (3, .p 1), (2, .p 0)], [(1, .cells (mr W xs ys [.i f0, .i f1, .i f2, .i t0, .i t1, .i t2, .i sz, .i lm, .sl false 8 (List.map thS ts), .i ph, .i sc, .i fl, .sl false 1 (List.map (SV.int .i64) os), .i brk]) 32), (0, .cells (mr W xs ys [.i f0, .i f1, .i f2, .i t0, .i t1, .i t2, .i sz, .i lm, .sl false 8 (List.map thS ts), .i ph, .i sc, .i fl, .sl false 1 (List.map (SV.int .i64) os), .i brk]) 32)], 2⟩ [True, True] ⟨trivial, trivial, trivial⟩ ?_
 refine pc (eqmem W xs ys ‹_› ‹_› ‹_› (by omega) (by omega)) ?_
 refine rk [] 1 5 ⟨[(5, .t), (4, .f), (3, .p 1), (2, .p 0)], [(1, .cells (mr W xs ys [.i f0, .i f1, .i f2, .i t0, .i t1, .i t2, .i sz, .i lm, .sl false 8 (List.map thS ts), .i ph, .i sc, .i fl, .sl false 1 (List.map (SV.int .i64) os), .i brk]) 32), (0, .cells (mr W xs ys [.i f0, .i f1, .i f2, .i t0, .i t1, .i t2, .i sz, .i lm, .sl false 8 (List.map thS ts), .i ph, .i sc, .i fl, .sl false 1 (List.map (SV.int .i64) os), .i brk]) 32)], 2⟩ [] trivial ?_
 refine en ?_
 refine an ?_
 refine xw_seq ?_
 refine reg ?_
 refine rk [] 4 0 ⟨[(17, .sl false 1 (List.map (SV.int .i64) os)), (15, .sl false 1 (List.map (SV.int .i64) os)), (5, .t), (4, .f), (3, .p 1), (2, .p 0)], [(1, .cells (mr W xs ys [.i f0, .i f1, .i f2, .i t0, .i t1, .i t2, .i sz, .i lm, .sl false 8 (List.map thS ts), .i ph, .i sc, .i fl, .sl false 1 (List.map (SV.int .i64) os), .i brk]) 32), (0, .cells (mr W xs ys [.i f0, .i f1, .i f2, .i t0, .i t1, .i t2, .i sz, .i lm, .sl false 8 (List.map thS ts), .i ph, .i sc, .i fl, .sl false 1 (List.map (SV.int .i64) os), .i brk]) 32)], 2⟩ [True, True] ⟨trivial, trivial, trivial⟩ ?_
 refine pc (eqints os ‹_› (by omega)) ?_
 refine rk [] 1 5 ⟨[(6, .t), (5, .t), (4, .f), (3, .p 1), (2, .p 0)], [(1, .cells (mr W xs ys [.i f0, .i f1, .i f2, .i t0, .i t1, .i t2, .i sz, .i lm, .sl false 8 (List.map thS ts), .i ph, .i sc, .i fl, .sl false 1 (List.map (SV.int .i64) os), .i brk]) 32), (0, .cells (mr W xs ys [.i f0, .i f1, .i f2, .i t0, .i t1, .i t2, .i sz, .i lm, .sl false 8 (List.map thS ts), .i ph, .i sc, .i fl, .sl false 1 (List.map (SV.int .i64) os), .i brk]) 32)], 2⟩ [] trivial ?_
 refine en ?_
 refine an ?_
 refine xw_seq ?_
 refine rg [(9, .i ((ts).length : Int)), (12, .i ((ts).length : Int)), (13, .f)] 15 ⟨[(33, .f), (4, .f), (3, .p 1), (2, .p 0)], [(1, .cells (mr W xs ys [.i f0, .i f1, .i f2, .i t0, .i t1, .i t2, .i sz, .i lm, .sl false 8 (List.map thS ts), .i ph, .i sc, .i fl, .sl false 1 (List.map (SV.int .i64) os), .i brk]) 32), (0, .cells (mr W xs ys [.i f0, .i f1, .i f2, .i t0, .i t1, .i t2, .i sz, .i lm, .sl false 8 (List.map thS ts), .i ph, .i sc, .i fl, .sl false 1 (List.map (SV.int .i64) os), .i brk]) 32)], 2⟩ [True, True, ((((List.map thS ts)).length : Nat) : Int) = ((ts).length : Int), True, ((((List.map thS ts)).length : Nat) : Int) = ((ts).length : Int), (((ts).length : Int) != ((ts).length : Int)) = false, True] ⟨trivial, trivial, (by simp), trivial, (by simp), bne_eq_false_iff_eq.2 (by omega), trivial, trivial⟩ ?_
 refine cf ?_
 refine xw_skip ?_
 refine an ?_
 refine xw_seq ?_
 refine rg [] 1 ⟨[(7, .i 0), (4, .f), (3, .p 1), (2, .p 0)], [(1, .cells (mr W xs ys [.i f0, .i f1, .i f2, .i t0, .i t1, .i t2, .i sz, .i lm, .sl false 8 (List.map thS ts), .i ph, .i sc, .i fl, .sl false 1 (List.map (SV.int .i64) os), .i brk]) 32), (0, .cells (mr W xs ys [.i f0, .i f1, .i f2, .i t0, .i t1, .i t2, .i sz, .i lm, .sl false 8 (List.map thS ts), .i ph, .i sc, .i fl, .sl false 1 (List.map (SV.int .i64) os), .i brk]) 32)], 2⟩ [] trivial ?_
 refine xw_block ?_
 refine xw_loop (α := {q : Int // (0 ≤ q) ∧ (q ≤ (ts.length : Int))}) (fun p => ⟨[(7, .i p.1), (4, .f), (3, .p 1), (2, .p 0)], [(1, .cells (mr W xs ys [.i f0, .i f1, .i f2, .i t0, .i t1, .i t2, .i sz, .i lm, .sl false 8 (List.map thS ts), .i ph, .i sc, .i fl, .sl false 1 (List.map (SV.int .i64) os), .i brk]) 32), (0, .cells (mr W xs ys [.i f0, .i f1, .i f2, .i t0, .i t1, .i t2, .i sz, .i lm, .sl false 8 (List.map thS ts), .i ph, .i sc, .i fl, .sl false 1 (List.map (SV.int .i64) os), .i brk]) 32)], 2⟩) (fun p => ((ts.length : Int) - p.1).toNat) ⟨0, ⟨(by omega), (by omega)⟩⟩ (le_of [] [(0 : Int) = 0, false = false, (W : Int) = W, (false = true → false = true), ((m64 xs) : List SV) = (m64 xs), (false = true → false = true), ((m64 ys) : List SV) = (m64 ys), (f0 : Int) = f0, (f1 : Int) = f1, (f2 : Int) = f2, (t0 : Int) = t0, (t1 : Int) = t1, (t2 : Int) = t2, (sz : Int) = sz, (lm : Int) = lm, (false = true → false = true), ((List.map thS ts) : List SV) = (List.map thS ts), (ph : Int) = ph, (sc : Int) = sc, (fl : Int) = fl, (false = true → false = true), ((List.map (SV.int .i64) os) : List SV) = (List.map (SV.int .i64) os), (brk : Int) = brk, (W : Int) = W, (false = true → false = true), ((m64 xs) : List SV) = (m64 xs), (false = true → false = true), ((m64 ys) : List SV) = (m64 ys), (f0 : Int) = f0, (f1 : Int) = f1, (f2 : Int) = f2, (t0 : Int) = t0, (t1 : Int) = t1, (t2 : Int) = t2, (sz : Int) = sz, (lm : Int) = lm, (false = true → false = true), ((List.map thS ts) : List SV) = (List.map thS ts), (ph : Int) = ph, (sc : Int) = sc, (fl : Int) = fl, (false = true → false = true), ((List.map (SV.int .i64) os) : List SV) = (List.map (SV.int .i64) os), (brk : Int) = brk] (by kernel_rfl) ⟨rfl, rfl, rfl, id, rfl, id, rfl, rfl, rfl, rfl, rfl, rfl, rfl, rfl, rfl, id, rfl, rfl, rfl, rfl, id, rfl, rfl, rfl, id, rfl, id, rfl, rfl, rfl, rfl, rfl, rfl, rfl, rfl, rfl, id, rfl, rfl, rfl, rfl, id, rfl, rfl, trivial⟩) ?_
 rintro ⟨i1, h0, h1⟩
 show XW _ _ _ _ _ _ ⟨[(7, .int .i64 i1), (4, .bool false), (3, .loc 1 0), (2, .loc 0 0)], [(1, .cells (mr W xs ys [.int .i64 f0, .int .i64 f1, .int .i64 f2, .int .i64 t0, .int .i64 t1, .int .i64 t2, .int .i64 sz, .int .i64 lm, .sl false 8 (List.map thS ts), .int .i64 ph, .int .i64 sc, .int .i64 fl, .sl false 1 (List.map (SV.int .i64) os), .int .i64 brk]) 32), (0, .cells (mr W xs ys [.int .i64 f0, .int .i64 f1, .int .i64 f2, .int .i64 t0, .int .i64 t1, .int .i64 t2, .int .i64 sz, .int .i64 lm, .sl false 8 (List.map thS ts), .int .i64 ph, .int .i64 sc, .int .i64 fl, .sl false 1 (List.map (SV.int .i64) os), .int .i64 brk]) 32)], 2⟩
 refine xw_seq ?_
 refine rg [(3, .i ((ts).length : Int)), (4, .bool (decide (i1 < ((ts).length : Int))))] 5 ⟨[(38, .bool (decide (i1 < ((ts).length : Int)))), (7, .i i1), (4, .f), (3, .p 1), (2, .p 0)], [(1, .cells (mr W xs ys [.i f0, .i f1, .i f2, .i t0, .i t1, .i t2, .i sz, .i lm, .sl false 8 (List.map thS ts), .i ph, .i sc, .i fl, .sl false 1 (List.map (SV.int .i64) os), .i brk]) 32), (0, .cells (mr W xs ys [.i f0, .i f1, .i f2, .i t0, .i t1, .i t2, .i sz, .i lm, .sl false 8 (List.map thS ts), .i ph, .i sc, .i fl, .sl false 1 (List.map (SV.int .i64) os), .i brk]) 32)], 2⟩ [True, ((((List.map thS ts)).length : Nat) : Int) = ((ts).length : Int), (decide (i1 < ((ts).length : Int))) = (decide (i1 < ((ts).length : Int)))] ⟨trivial, (by simp), rfl, trivial⟩ ?_
 refine xw_cond (b := (decide (i1 < ((ts).length : Int)))) (by kernel_rfl) (fun h2 => ?_) (fun h2 => ?_)
 ·
  replace h2 : i1 < (ts.length : Int) := of_decide_eq_true h2
  refine xw_skip ?_
  refine an ?_
  refine xw_seq ?_
  refine xw_block ?_
  refine xw_seq ?_
  refine dregk hmix (by kernel_rfl) ?_
  refine qr [(3, .agg [.sl false 1 (m64 (Th.st (thA ts i1))), .i (Th.b0 (thA ts i1)), .i (Th.b1 (thA ts i1)), .sl false 2 (List.map entS (Th.lg (thA ts i1))), .sl false 8 (List.map opS (Th.lf (thA ts i1))), .sl false 2 (List.map entS (Th.pd (thA ts i1))), .bool (Th.wt (thA ts i1)), .sl false 3 (List.map ansS (Th.dn (thA ts i1)))])] 4 0 [(44, .elt (.agg [.sl false 1 (m64 (Th.st (thA ts i1))), .i (Th.b0 (thA ts i1)), .i (Th.b1 (thA ts i1)), .sl false 2 (List.map entS (Th.lg (thA ts i1))), .sl false 8 (List.map opS (Th.lf (thA ts i1))), .sl false 2 (List.map entS (Th.pd (thA ts i1))), .bool (Th.wt (thA ts i1)), .sl false 3 (List.map ansS (Th.dn (thA ts i1)))])), (43, .i i1), (42, .sl false 8 (List.map thS ts)), (41, .loc 0 11), (38, .bool (decide (i1 < ((ts).length : Int)))), (7, .i i1), (4, .f), (3, .p 1), (2, .p 0)] [True, (0 : Int) ≤ i1 ∧ i1 < ((((List.map thS ts)).length : Nat) : Int) ∧ ((List.map thS ts))[(i1 : Int).toNat]? = some (.agg [.sl false 1 (m64 (Th.st (thA ts i1))), .i (Th.b0 (thA ts i1)), .i (Th.b1 (thA ts i1)), .sl false 2 (List.map entS (Th.lg (thA ts i1))), .sl false 8 (List.map opS (Th.lf (thA ts i1))), .sl false 2 (List.map entS (Th.pd (thA ts i1))), .bool (Th.wt (thA ts i1)), .sl false 3 (List.map ansS (Th.dn (thA ts i1)))])] ⟨trivial, (ix_th (by omega) (by first | omega | (simp only [len_st]; omega) | (simp; done) | (simp; omega) | (simp [len_st, len_stx, len_sty, len_zx, len_zy]; omega))), trivial⟩ ?_
  have h3 : U64s (Th.st (thA ts i1)) := (Ths.at (by first | assumption | exact U64s.st (by assumption) _ (by omega)) _).1
  have h4 : ((Th.st (thA ts i1)).length : Int) * 8 ≤ 140737488355000 := (Ths.at (by first | assumption | exact U64s.st (by assumption) _ (by omega)) _).2.1
  have h5 : (-9223372036854775808 ≤ (Th.b0 (thA ts i1)) ∧ (Th.b0 (thA ts i1)) ≤ 9223372036854775807) := (Ths.at (by first | assumption | exact U64s.st (by assumption) _ (by omega)) _).2.2.1
  have h6 : (-9223372036854775808 ≤ (Th.b1 (thA ts i1)) ∧ (Th.b1 (thA ts i1)) ≤ 9223372036854775807) := (Ths.at (by first | assumption | exact U64s.st (by assumption) _ (by omega)) _).2.2.2.1
  have h7 : Ents (Th.lg (thA ts i1)) := (Ths.at (by first | assumption | exact U64s.st (by assumption) _ (by omega)) _).2.2.2.2.1
  have h8 : ((Th.lg (thA ts i1)).length : Int) * 16 ≤ 140737488355000 := (Ths.at (by first | assumption | exact U64s.st (by assumption) _ (by omega)) _).2.2.2.2.2.1
  have h9 : Ops (Th.lf (thA ts i1)) := (Ths.at (by first | assumption | exact U64s.st (by assumption) _ (by omega)) _).2.2.2.2.2.2.1
  have h10 : ((Th.lf (thA ts i1)).length : Int) * 64 ≤ 140737488355000 := (Ths.at (by first | assumption | exact U64s.st (by assumption) _ (by omega)) _).2.2.2.2.2.2.2.1
  have h11 : Ents (Th.pd (thA ts i1)) := (Ths.at (by first | assumption | exact U64s.st (by assumption) _ (by omega)) _).2.2.2.2.2.2.2.2.1
  have h12 : ((Th.pd (thA ts i1)).length : Int) * 16 ≤ 140737488355000 := (Ths.at (by first | assumption | exact U64s.st (by assumption) _ (by omega)) _).2.2.2.2.2.2.2.2.2.1
  have h13 : Anss (Th.dn (thA ts i1)) := (Ths.at (by first | assumption | exact U64s.st (by assumption) _ (by omega)) _).2.2.2.2.2.2.2.2.2.2.1
  have h14 : ((Th.dn (thA ts i1)).length : Int) * 24 ≤ 140737488355000 := (Ths.at (by first | assumption | exact U64s.st (by assumption) _ (by omega)) _).2.2.2.2.2.2.2.2.2.2.2
  refine qr [(8, .agg [.sl false 1 (m64 (Th.st (thA ts i1))), .i (Th.b0 (thA ts i1)), .i (Th.b1 (thA ts i1)), .sl false 2 (List.map entS (Th.lg (thA ts i1))), .sl false 8 (List.map opS (Th.lf (thA ts i1))), .sl false 2 (List.map entS (Th.pd (thA ts i1))), .bool (Th.wt (thA ts i1)), .sl false 3 (List.map ansS (Th.dn (thA ts i1)))])] 5 4 [(49, .elt (.agg [.sl false 1 (m64 (Th.st (thA ts i1))), .i (Th.b0 (thA ts i1)), .i (Th.b1 (thA ts i1)), .sl false 2 (List.map entS (Th.lg (thA ts i1))), .sl false 8 (List.map opS (Th.lf (thA ts i1))), .sl false 2 (List.map entS (Th.pd (thA ts i1))), .bool (Th.wt (thA ts i1)), .sl false 3 (List.map ansS (Th.dn (thA ts i1)))])), (48, .i i1), (47, .sl false 8 (List.map thS ts)), (46, .loc 1 11), (45, .agg [.sl false 1 (m64 (Th.st (thA ts i1))), .i (Th.b0 (thA ts i1)), .i (Th.b1 (thA ts i1)), .sl false 2 (List.map entS (Th.lg (thA ts i1))), .sl false 8 (List.map opS (Th.lf (thA ts i1))), .sl false 2 (List.map entS (Th.pd (thA ts i1))), .bool (Th.wt (thA ts i1)), .sl false 3 (List.map ansS (Th.dn (thA ts i1)))]), (44, .elt (.agg [.sl false 1 (m64 (Th.st (thA ts i1))), .i (Th.b0 (thA ts i1)), .i (Th.b1 (thA ts i1)), .sl false 2 (List.map entS (Th.lg (thA ts i1))), .sl false 8 (List.map opS (Th.lf (thA ts i1))), .sl false 2 (List.map entS (Th.pd (thA ts i1))), .bool (Th.wt (thA ts i1)), .sl false 3 (List.map ansS (Th.dn (thA ts i1)))])), (43, .i i1), (42, .sl false 8 (List.map thS ts)), (41, .loc 0 11), (38, .bool (decide (i1 < ((ts).length : Int)))), (7, .i i1), (4, .f), (3, .p 1), (2, .p 0)] [True, True, (0 : Int) ≤ i1 ∧ i1 < ((((List.map thS ts)).length : Nat) : Int) ∧ ((List.map thS ts))[(i1 : Int).toNat]? = some (.agg [.sl false 1 (m64 (Th.st (thA ts i1))), .i (Th.b0 (thA ts i1)), .i (Th.b1 (thA ts i1)), .sl false 2 (List.map entS (Th.lg (thA ts i1))), .sl false 8 (List.map opS (Th.lf (thA ts i1))), .sl false 2 (List.map entS (Th.pd (thA ts i1))), .bool (Th.wt (thA ts i1)), .sl false 3 (List.map ansS (Th.dn (thA ts i1)))])] ⟨trivial, trivial, (ix_th (by omega) (by first | omega | (simp only [len_st]; omega) | (simp; done) | (simp; omega) | (simp [len_st, len_stx, len_sty, len_zx, len_zy]; omega))), trivial⟩ ?_
  have h15 : U64s (Th.st (thA ts i1)) := (Ths.at (by first | assumption | exact U64s.st (by assumption) _ (by omega)) _).1
  have h16 : ((Th.st (thA ts i1)).length : Int) * 8 ≤ 140737488355000 := (Ths.at (by first | assumption | exact U64s.st (by assumption) _ (by omega)) _).2.1
  have h17 : (-9223372036854775808 ≤ (Th.b0 (thA ts i1)) ∧ (Th.b0 (thA ts i1)) ≤ 9223372036854775807) := (Ths.at (by first | assumption | exact U64s.st (by assumption) _ (by omega)) _).2.2.1
  have h18 : (-9223372036854775808 ≤ (Th.b1 (thA ts i1)) ∧ (Th.b1 (thA ts i1)) ≤ 9223372036854775807) := (Ths.at (by first | assumption | exact U64s.st (by assumption) _ (by omega)) _).2.2.2.1
  have h19 : Ents (Th.lg (thA ts i1)) := (Ths.at (by first | assumption | exact U64s.st (by assumption) _ (by omega)) _).2.2.2.2.1
  have h20 : ((Th.lg (thA ts i1)).length : Int) * 16 ≤ 140737488355000 := (Ths.at (by first | assumption | exact U64s.st (by assumption) _ (by omega)) _).2.2.2.2.2.1
  have h21 : Ops (Th.lf (thA ts i1)) := (Ths.at (by first | assumption | exact U64s.st (by assumption) _ (by omega)) _).2.2.2.2.2.2.1
  have h22 : ((Th.lf (thA ts i1)).length : Int) * 64 ≤ 140737488355000 := (Ths.at (by first | assumption | exact U64s.st (by assumption) _ (by omega)) _).2.2.2.2.2.2.2.1
  have h23 : Ents (Th.pd (thA ts i1)) := (Ths.at (by first | assumption | exact U64s.st (by assumption) _ (by omega)) _).2.2.2.2.2.2.2.2.1
  have h24 : ((Th.pd (thA ts i1)).length : Int) * 16 ≤ 140737488355000 := (Ths.at (by first | assumption | exact U64s.st (by assumption) _ (by omega)) _).2.2.2.2.2.2.2.2.2.1
  have h25 : Anss (Th.dn (thA ts i1)) := (Ths.at (by first | assumption | exact U64s.st (by assumption) _ (by omega)) _).2.2.2.2.2.2.2.2.2.2.1
  have h26 : ((Th.dn (thA ts i1)).length : Int) * 24 ≤ 140737488355000 := (Ths.at (by first | assumption | exact U64s.st (by assumption) _ (by omega)) _).2.2.2.2.2.2.2.2.2.2.2
  refine qr [] 1 9 [(50, .agg [.sl false 1 (m64 (Th.st (thA ts i1))), .i (Th.b0 (thA ts i1)), .i (Th.b1 (thA ts i1)), .sl false 2 (List.map entS (Th.lg (thA ts i1))), .sl false 8 (List.map opS (Th.lf (thA ts i1))), .sl false 2 (List.map entS (Th.pd (thA ts i1))), .bool (Th.wt (thA ts i1)), .sl false 3 (List.map ansS (Th.dn (thA ts i1)))]), (49, .elt (.agg [.sl false 1 (m64 (Th.st (thA ts i1))), .i (Th.b0 (thA ts i1)), .i (Th.b1 (thA ts i1)), .sl false 2 (List.map entS (Th.lg (thA ts i1))), .sl false 8 (List.map opS (Th.lf (thA ts i1))), .sl false 2 (List.map entS (Th.pd (thA ts i1))), .bool (Th.wt (thA ts i1)), .sl false 3 (List.map ansS (Th.dn (thA ts i1)))])), (48, .i i1), (47, .sl false 8 (List.map thS ts)), (46, .loc 1 11), (45, .agg [.sl false 1 (m64 (Th.st (thA ts i1))), .i (Th.b0 (thA ts i1)), .i (Th.b1 (thA ts i1)), .sl false 2 (List.map entS (Th.lg (thA ts i1))), .sl false 8 (List.map opS (Th.lf (thA ts i1))), .sl false 2 (List.map entS (Th.pd (thA ts i1))), .bool (Th.wt (thA ts i1)), .sl false 3 (List.map ansS (Th.dn (thA ts i1)))]), (44, .elt (.agg [.sl false 1 (m64 (Th.st (thA ts i1))), .i (Th.b0 (thA ts i1)), .i (Th.b1 (thA ts i1)), .sl false 2 (List.map entS (Th.lg (thA ts i1))), .sl false 8 (List.map opS (Th.lf (thA ts i1))), .sl false 2 (List.map entS (Th.pd (thA ts i1))), .bool (Th.wt (thA ts i1)), .sl false 3 (List.map ansS (Th.dn (thA ts i1)))])), (43, .i i1), (42, .sl false 8 (List.map thS ts)), (41, .loc 0 11), (38, .bool (decide (i1 < ((ts).length : Int)))), (7, .i i1), (4, .f), (3, .p 1), (2, .p 0)] [True] ⟨trivial, trivial⟩ ?_
  refine qc (eqthread (Th.st (thA ts i1)) (Th.b0 (thA ts i1)) (Th.b1 (thA ts i1)) (Th.lg (thA ts i1)) (Th.lf (thA ts i1)) (Th.pd (thA ts i1)) (Th.wt (thA ts i1)) (Th.dn (thA ts i1)) ‹_› (by omega) ‹_› ‹_› ‹_› (by omega) ‹_› (by omega) ‹_› (by omega) ‹_› (by omega)) ?_
  refine qr [] 1 11 [(8, .t), (51, .t), (50, .agg [.sl false 1 (m64 (Th.st (thA ts i1))), .i (Th.b0 (thA ts i1)), .i (Th.b1 (thA ts i1)), .sl false 2 (List.map entS (Th.lg (thA ts i1))), .sl false 8 (List.map opS (Th.lf (thA ts i1))), .sl false 2 (List.map entS (Th.pd (thA ts i1))), .bool (Th.wt (thA ts i1)), .sl false 3 (List.map ansS (Th.dn (thA ts i1)))]), (49, .elt (.agg [.sl false 1 (m64 (Th.st (thA ts i1))), .i (Th.b0 (thA ts i1)), .i (Th.b1 (thA ts i1)), .sl false 2 (List.map entS (Th.lg (thA ts i1))), .sl false 8 (List.map opS (Th.lf (thA ts i1))), .sl false 2 (List.map entS (Th.pd (thA ts i1))), .bool (Th.wt (thA ts i1)), .sl false 3 (List.map ansS (Th.dn (thA ts i1)))])), (48, .i i1), (47, .sl false 8 (List.map thS ts)), (46, .loc 1 11), (45, .agg [.sl false 1 (m64 (Th.st (thA ts i1))), .i (Th.b0 (thA ts i1)), .i (Th.b1 (thA ts i1)), .sl false 2 (List.map entS (Th.lg (thA ts i1))), .sl false 8 (List.map opS (Th.lf (thA ts i1))), .sl false 2 (List.map entS (Th.pd (thA ts i1))), .bool (Th.wt (thA ts i1)), .sl false 3 (List.map ansS (Th.dn (thA ts i1)))]), (44, .elt (.agg [.sl false 1 (m64 (Th.st (thA ts i1))), .i (Th.b0 (thA ts i1)), .i (Th.b1 (thA ts i1)), .sl false 2 (List.map entS (Th.lg (thA ts i1))), .sl false 8 (List.map opS (Th.lf (thA ts i1))), .sl false 2 (List.map entS (Th.pd (thA ts i1))), .bool (Th.wt (thA ts i1)), .sl false 3 (List.map ansS (Th.dn (thA ts i1)))])), (43, .i i1), (42, .sl false 8 (List.map thS ts)), (41, .loc 0 11), (38, .bool (decide (i1 < ((ts).length : Int)))), (7, .i i1), (4, .f), (3, .p 1), (2, .p 0)] [] trivial ?_
  refine qen ?_
  refine an ?_
  refine rg [] 2 ⟨[(53, .f), (7, .i i1), (4, .f), (3, .p 1), (2, .p 0)], [(1, .cells (mr W xs ys [.i f0, .i f1, .i f2, .i t0, .i t1, .i t2, .i sz, .i lm, .sl false 8 (List.map thS ts), .i ph, .i sc, .i fl, .sl false 1 (List.map (SV.int .i64) os), .i brk]) 32), (0, .cells (mr W xs ys [.i f0, .i f1, .i f2, .i t0, .i t1, .i t2, .i sz, .i lm, .sl false 8 (List.map thS ts), .i ph, .i sc, .i fl, .sl false 1 (List.map (SV.int .i64) os), .i brk]) 32)], 2⟩ [] trivial ?_
  refine cf ?_
  refine xw_skip ?_
  refine ib ?_
  refine an ?_
  refine re [(1, .i (i1 + 1))] 3 ⟨[(7, .i (i1 + 1)), (4, .f), (3, .p 1), (2, .p 0)], [(1, .cells (mr W xs ys [.i f0, .i f1, .i f2, .i t0, .i t1, .i t2, .i sz, .i lm, .sl false 8 (List.map thS ts), .i ph, .i sc, .i fl, .sl false 1 (List.map (SV.int .i64) os), .i brk]) 32), (0, .cells (mr W xs ys [.i f0, .i f1, .i f2, .i t0, .i t1, .i t2, .i sz, .i lm, .sl false 8 (List.map thS ts), .i ph, .i sc, .i fl, .sl false 1 (List.map (SV.int .i64) os), .i brk]) 32)], 2⟩ [IntKind.i64.wrap (i1 + 1) = (i1 + 1)] ⟨i64_eq (by omega) (by omega), trivial⟩ ?_
  exact ag ⟨(i1 + 1), ⟨(by omega), (by omega)⟩⟩ (le_of [] [((i1 + 1) : Int) = (i1 + 1), false = false, (W : Int) = W, (false = true → false = true), ((m64 xs) : List SV) = (m64 xs), (false = true → false = true), ((m64 ys) : List SV) = (m64 ys), (f0 : Int) = f0, (f1 : Int) = f1, (f2 : Int) = f2, (t0 : Int) = t0, (t1 : Int) = t1, (t2 : Int) = t2, (sz : Int) = sz, (lm : Int) = lm, (false = true → false = true), ((List.map thS ts) : List SV) = (List.map thS ts), (ph : Int) = ph, (sc : Int) = sc, (fl : Int) = fl, (false = true → false = true), ((List.map (SV.int .i64) os) : List SV) = (List.map (SV.int .i64) os), (brk : Int) = brk, (W : Int) = W, (false = true → false = true), ((m64 xs) : List SV) = (m64 xs), (false = true → false = true), ((m64 ys) : List SV) = (m64 ys), (f0 : Int) = f0, (f1 : Int) = f1, (f2 : Int) = f2, (t0 : Int) = t0, (t1 : Int) = t1, (t2 : Int) = t2, (sz : Int) = sz, (lm : Int) = lm, (false = true → false = true), ((List.map thS ts) : List SV) = (List.map thS ts), (ph : Int) = ph, (sc : Int) = sc, (fl : Int) = fl, (false = true → false = true), ((List.map (SV.int .i64) os) : List SV) = (List.map (SV.int .i64) os), (brk : Int) = brk] (by kernel_rfl) ⟨rfl, rfl, rfl, id, rfl, id, rfl, rfl, rfl, rfl, rfl, rfl, rfl, rfl, rfl, id, rfl, rfl, rfl, rfl, id, rfl, rfl, rfl, id, rfl, id, rfl, rfl, rfl, rfl, rfl, rfl, rfl, rfl, rfl, id, rfl, rfl, rfl, rfl, id, rfl, rfl, trivial⟩) (by show ((ts.length : Int) - (i1 + 1)).toNat < ((ts.length : Int) - i1).toNat; omega)
 ·
  replace h2 : ¬ (i1 < (ts.length : Int)) := of_decide_eq_false h2
  refine xw_exit ?_
  refine an_exit ?_
  refine ag_exit ?_
  refine ib_same ?_
  refine an ?_
  refine rg [(4, .t), (10, .t), (17, .t), (24, .t), (31, .t), (38, .t), (45, .t), (52, .t)] 55 ⟨[(4, .t)], [], 2⟩ [True, True, ((f0 == f0) && ((f1 == f1) && ((f2 == f2) && true))) = true, True, True, ((t0 == t0) && ((t1 == t1) && ((t2 == t2) && true))) = true, True, True, True, (sz == sz) = true, True, True, True, (lm == lm) = true, True, True, True, (ph == ph) = true, True, True, True, (sc == sc) = true, True, True, True, (fl == fl) = true, True, True, True, (brk == brk) = true, True] ⟨trivial, trivial, (by first | (simp <;> omega) | (simp only [Bool.not_eq_eq_eq_not, Bool.not_true, Bool.not_false, Bool.and_eq_true, beq_iff_eq, and_true]; and_intros <;> first | omega | assumption)), trivial, trivial, (by first | (simp <;> omega) | (simp only [Bool.not_eq_eq_eq_not, Bool.not_true, Bool.not_false, Bool.and_eq_true, beq_iff_eq, and_true]; and_intros <;> first | omega | assumption)), trivial, trivial, trivial, beq_iff_eq.2 (by omega), trivial, trivial, trivial, beq_iff_eq.2 (by omega), trivial, trivial, trivial, beq_iff_eq.2 (by omega), trivial, trivial, trivial, beq_iff_eq.2 (by omega), trivial, trivial, trivial, beq_iff_eq.2 (by omega), trivial, trivial, trivial, beq_iff_eq.2 (by omega), trivial, trivial⟩ ?_
  refine xw_ret ?_
  exact bs (.t) rfl

set_option maxHeartbeats 8000000 in
theorem hright (W : Int) (xs ys : List Int) (f0 f1 f2 t0 t1 t2 sz lm : Int) (ts : List Th) (ph sc fl : Int) (os : List Int) (brk : Int) (hp0 : -9223372036854775808 ≤ W ∧ W ≤ 9223372036854775807) (hp1 : U64s xs) (hp2 : U64s ys) (hp3 : -9223372036854775808 ≤ f0 ∧ f0 ≤ 9223372036854775807) (hp4 : -9223372036854775808 ≤ f1 ∧ f1 ≤ 9223372036854775807) (hp5 : -9223372036854775808 ≤ f2 ∧ f2 ≤ 9223372036854775807) (hp6 : -9223372036854775808 ≤ t0 ∧ t0 ≤ 9223372036854775807) (hp7 : -9223372036854775808 ≤ t1 ∧ t1 ≤ 9223372036854775807) (hp8 : -9223372036854775808 ≤ t2 ∧ t2 ≤ 9223372036854775807) (hp9 : -9223372036854775808 ≤ sz ∧ sz ≤ 9223372036854775807) (hp10 : -9223372036854775808 ≤ lm ∧ lm ≤ 9223372036854775807) (hp11 : Ths ts) (hp12 : (ts.length : Int) * 144 ≤ 140737488355000) (hp13 : -9223372036854775808 ≤ ph ∧ ph ≤ 9223372036854775807) (hp14 : -9223372036854775808 ≤ sc ∧ sc ≤ 9223372036854775807) (hp15 : -9223372036854775808 ≤ fl ∧ fl ≤ 9223372036854775807) (hp16 : I64s os) (hp17 : (os.length : Int) * 8 ≤ 140737488355000) (hp18 : -9223372036854775808 ≤ brk ∧ brk ≤ 9223372036854775807) : Pub Try.prog 11 [.agg (mr W xs ys [.i f0, .i f1, .i f2, .i t0, .i t1, .i t2, .i sz, .i lm, .sl false 8 (List.map thS ts), .i ph, .i sc, .i fl, .sl false 1 (List.map (SV.int .i64) os), .i brk])] (fun rv => ((16 ≤ W ∧ W ≤ 4096 ∧ (xs.length : Int) = W ∧ (ys.length : Int) = W ∧ 1 ≤ (ts.length : Int) ∧ (ts.length : Int) ≤ 4) ∧ rv = .t) ∨ (rv = .f)) := by
 refine pub_of TT_ok Try.func11 rfl (by decide) (Nat.le_of_ble_eq_true (by kernel_rfl)) (by kernel_rfl) ?_
 refine rg [] 2 ⟨[(2, .f), (1, .p 0)], [(0, .cells (mr W xs ys [.i f0, .i f1, .i f2, .i t0, .i t1, .i t2, .i sz, .i lm, .sl false 8 (List.map thS ts), .i ph, .i sc, .i fl, .sl false 1 (List.map (SV.int .i64) os), .i brk]) 32)], 1⟩ [] trivial ?_
 refine xw_seq ?_
 refine reg ?_
 refine rk [] 2 0 ⟨[(10, .agg (mm W xs ys)), (2, .f), (1, .p 0)], [(0, .cells (mr W xs ys [.i f0, .i f1, .i f2, .i t0, .i t1, .i t2, .i sz, .i lm, .sl false 8 (List.map thS ts), .i ph, .i sc, .i fl, .sl false 1 (List.map (SV.int .i64) os), .i brk]) 32)], 1⟩ [True] ⟨trivial, trivial⟩ ?_
 by_cases h0 : 16 ≤ W ∧ W ≤ 4096 ∧ (xs.length : Int) = W ∧ (ys.length : Int) = W
 ·
  refine pc (rmright_1 W xs ys ‹_› ‹_›) ?_
  refine rk [] 1 3 ⟨[(3, .t), (2, .f), (1, .p 0)], [(0, .cells (mr W xs ys [.i f0, .i f1, .i f2, .i t0, .i t1, .i t2, .i sz, .i lm, .sl false 8 (List.map thS ts), .i ph, .i sc, .i fl, .sl false 1 (List.map (SV.int .i64) os), .i brk]) 32)], 1⟩ [] trivial ?_
  refine en ?_
  refine an ?_
  refine xw_seq ?_
  refine reg ?_
  refine rk [] 2 0 ⟨[(13, .agg [.i f0, .i f1, .i f2]), (3, .t), (2, .f), (1, .p 0)], [(0, .cells (mr W xs ys [.i f0, .i f1, .i f2, .i t0, .i t1, .i t2, .i sz, .i lm, .sl false 8 (List.map thS ts), .i ph, .i sc, .i fl, .sl false 1 (List.map (SV.int .i64) os), .i brk]) 32)], 1⟩ [True] ⟨trivial, trivial⟩ ?_
  by_cases h1 : (f0 = 0 ∨ f0 = 1) ∧ 0 ≤ f2 ∧ f2 ≤ 4096 ∧ 0 ≤ f1 ∧ f1 ≤ f2
  ·
   refine pc (rright_1 f0 f1 f2 ‹_› ‹_› ‹_› ‹_›) ?_
   refine rk [] 1 3 ⟨[(4, .t), (3, .t), (2, .f), (1, .p 0)], [(0, .cells (mr W xs ys [.i f0, .i f1, .i f2, .i t0, .i t1, .i t2, .i sz, .i lm, .sl false 8 (List.map thS ts), .i ph, .i sc, .i fl, .sl false 1 (List.map (SV.int .i64) os), .i brk]) 32)], 1⟩ [] trivial ?_
   refine en ?_
   refine an ?_
   refine xw_seq ?_
   refine reg ?_
   refine rk [] 2 0 ⟨[(16, .agg [.i t0, .i t1, .i t2]), (4, .t), (3, .t), (2, .f), (1, .p 0)], [(0, .cells (mr W xs ys [.i f0, .i f1, .i f2, .i t0, .i t1, .i t2, .i sz, .i lm, .sl false 8 (List.map thS ts), .i ph, .i sc, .i fl, .sl false 1 (List.map (SV.int .i64) os), .i brk]) 32)], 1⟩ [True] ⟨trivial, trivial⟩ ?_
   by_cases h2 : (t0 = 0 ∨ t0 = 1) ∧ 0 ≤ t2 ∧ t2 ≤ 4096 ∧ 0 ≤ t1 ∧ t1 ≤ t2
   ·
    refine pc (rright_1 t0 t1 t2 ‹_› ‹_› ‹_› ‹_›) ?_
    refine rk [] 1 3 ⟨[(5, .t), (4, .t), (3, .t), (2, .f), (1, .p 0)], [(0, .cells (mr W xs ys [.i f0, .i f1, .i f2, .i t0, .i t1, .i t2, .i sz, .i lm, .sl false 8 (List.map thS ts), .i ph, .i sc, .i fl, .sl false 1 (List.map (SV.int .i64) os), .i brk]) 32)], 1⟩ [] trivial ?_
    refine en ?_
    refine an ?_
    refine xw_seq ?_
    refine xw_seq ?_
    refine reg ?_
    refine rk [(17, .bool (f0 == t0))] 20 0 ⟨[(37, .bool (f0 == t0)), (2, .f), (1, .p 0)], [(0, .cells (mr W xs ys [.i f0, .i f1, .i f2, .i t0, .i t1, .i t2, .i sz, .i lm, .sl false 8 (List.map thS ts), .i ph, .i sc, .i fl, .sl false 1 (List.map (SV.int .i64) os), .i brk]) 32)], 1⟩ [True, True, True, True, (f0 == t0) = (f0 == t0), True] ⟨trivial, trivial, trivial, trivial, rfl, trivial, trivial⟩ ?_
    refine splitr 37 (x := (f0 == t0)) (by kernel_rfl) (fun h3 => ?_) (fun h3 => ?_)
    ·
     replace h3 : f0 = t0 := eq_of_beq h3
     refine rk [] 17 20 ⟨[(54, .t), (2, .f), (1, .p 0)], [(0, .cells (mr W xs ys [.i f0, .i f1, .i f2, .i t0, .i t1, .i t2, .i sz, .i lm, .sl false 8 (List.map thS ts), .i ph, .i sc, .i fl, .sl false 1 (List.map (SV.int .i64) os), .i brk]) 32)], 1⟩ [True, True] ⟨trivial, trivial, trivial⟩ ?_
     refine en ?_
     refine an ?_
     refine ct ?_
     refine rg [] 1 ⟨[(2, .f), (1, .p 0)], [(0, .cells (mr W xs ys [.i f0, .i f1, .i f2, .i t0, .i t1, .i t2, .i sz, .i lm, .sl false 8 (List.map thS ts), .i ph, .i sc, .i fl, .sl false 1 (List.map (SV.int .i64) os), .i brk]) 32)], 1⟩ [] trivial ?_
     refine xw_ret ?_
     refine an_ret ?_
     exact bs (.f) (Or.inr <| rfl)
    ·
     replace h3 : f0 ≠ t0 := ne_of_beq_false h3
     refine rk [(26, .bool (f2 != W))] 9 20 ⟨[(46, .bool (f2 != W)), (2, .f), (1, .p 0)], [(0, .cells (mr W xs ys [.i f0, .i f1, .i f2, .i t0, .i t1, .i t2, .i sz, .i lm, .sl false 8 (List.map thS ts), .i ph, .i sc, .i fl, .sl false 1 (List.map (SV.int .i64) os), .i brk]) 32)], 1⟩ [True, True, (f2 != W) = (f2 != W), True] ⟨trivial, trivial, rfl, trivial, trivial⟩ ?_
     refine splitr 46 (x := (f2 != W)) (by kernel_rfl) (fun h4 => ?_) (fun h4 => ?_)
     ·
      replace h4 : f2 ≠ W := bne_iff_ne.1 h4
      refine rk [] 8 29 ⟨[(54, .t), (2, .f), (1, .p 0)], [(0, .cells (mr W xs ys [.i f0, .i f1, .i f2, .i t0, .i t1, .i t2, .i sz, .i lm, .sl false 8 (List.map thS ts), .i ph, .i sc, .i fl, .sl false 1 (List.map (SV.int .i64) os), .i brk]) 32)], 1⟩ [True] ⟨trivial, trivial⟩ ?_
      refine en ?_
      refine an ?_
      refine ct ?_
      refine rg [] 1 ⟨[(2, .f), (1, .p 0)], [(0, .cells (mr W xs ys [.i f0, .i f1, .i f2, .i t0, .i t1, .i t2, .i sz, .i lm, .sl false 8 (List.map thS ts), .i ph, .i sc, .i fl, .sl false 1 (List.map (SV.int .i64) os), .i brk]) 32)], 1⟩ [] trivial ?_
      refine xw_ret ?_
      refine an_ret ?_
      exact bs (.f) (Or.inr <| rfl)
     ·
      replace h4 : f2 = W := bne_eq_false_iff_eq.1 h4
      refine rk [(35, .bool (t2 != W))] 8 29 ⟨[(54, .bool (t2 != W)), (2, .f), (1, .p 0)], [(0, .cells (mr W xs ys [.i f0, .i f1, .i f2, .i t0, .i t1, .i t2, .i sz, .i lm, .sl false 8 (List.map thS ts), .i ph, .i sc, .i fl, .sl false 1 (List.map (SV.int .i64) os), .i brk]) 32)], 1⟩ [True, True, (t2 != W) = (t2 != W), True] ⟨trivial, trivial, rfl, trivial, trivial⟩ ?_
      refine en ?_
      refine an ?_
      refine xw_cond (b := (t2 != W)) (by kernel_rfl) (fun h5 => ?_) (fun h5 => ?_)
      ·
       replace h5 : t2 ≠ W := bne_iff_ne.1 h5
       refine rg [] 1 ⟨[(2, .f), (1, .p 0)], [(0, .cells (mr W xs ys [.i f0, .i f1, .i f2, .i t0, .i t1, .i t2, .i sz, .i lm, .sl false 8 (List.map thS ts), .i ph, .i sc, .i fl, .sl false 1 (List.map (SV.int .i64) os), .i brk]) 32)], 1⟩ [] trivial ?_
       refine xw_ret ?_
       refine an_ret ?_
       exact bs (.f) (Or.inr <| rfl)
      ·
       replace h5 : t2 = W := bne_eq_false_iff_eq.1 h5
       refine xw_skip ?_
       refine an ?_
       refine xw_seq ?_
       refine xw_seq ?_
       refine reg ?_
       refine rk [(2, .bool (decide (sz < 0)))] 4 0 ⟨[(58, .bool (decide (sz < 0))), (2, .f), (1, .p 0)], [(0, .cells (mr W xs ys [.i f0, .i f1, .i f2, .i t0, .i t1, .i t2, .i sz, .i lm, .sl false 8 (List.map thS ts), .i ph, .i sc, .i fl, .sl false 1 (List.map (SV.int .i64) os), .i brk]) 32)], 1⟩ [True, (decide (sz < 0)) = (decide (sz < 0))] ⟨trivial, rfl, trivial⟩ ?_
       refine splitr 58 (x := (decide (sz < 0))) (by kernel_rfl) (fun h6 => ?_) (fun h6 => ?_)
       ·
        replace h6 : sz < 0 := of_decide_eq_true h6
        refine rk [] 26 4 ⟨[(84, .t), (2, .f), (1, .p 0)], [(0, .cells (mr W xs ys [.i f0, .i f1, .i f2, .i t0, .i t1, .i t2, .i sz, .i lm, .sl false 8 (List.map thS ts), .i ph, .i sc, .i fl, .sl false 1 (List.map (SV.int .i64) os), .i brk]) 32)], 1⟩ [True, True, True, True, True] ⟨trivial, trivial, trivial, trivial, trivial, trivial⟩ ?_
        refine en ?_
        refine an ?_
        refine ct ?_
        refine rg [] 1 ⟨[(2, .f), (1, .p 0)], [(0, .cells (mr W xs ys [.i f0, .i f1, .i f2, .i t0, .i t1, .i t2, .i sz, .i lm, .sl false 8 (List.map thS ts), .i ph, .i sc, .i fl, .sl false 1 (List.map (SV.int .i64) os), .i brk]) 32)], 1⟩ [] trivial ?_
        refine xw_ret ?_
        refine an_ret ?_
        exact bs (.f) (Or.inr <| rfl)
       ·
        replace h6 : ¬ (sz < 0) := of_decide_eq_false h6
        refine rk [(6, .bool (decide (4096 < sz)))] 5 4 ⟨[(63, .bool (decide (4096 < sz))), (2, .f), (1, .p 0)], [(0, .cells (mr W xs ys [.i f0, .i f1, .i f2, .i t0, .i t1, .i t2, .i sz, .i lm, .sl false 8 (List.map thS ts), .i ph, .i sc, .i fl, .sl false 1 (List.map (SV.int .i64) os), .i brk]) 32)], 1⟩ [True, (decide (4096 < sz)) = (decide (4096 < sz)), True] ⟨trivial, rfl, trivial, trivial⟩ ?_
        refine splitr 63 (x := (decide (4096 < sz))) (by kernel_rfl) (fun h7 => ?_) (fun h7 => ?_)
        ·
         replace h7 : 4096 < sz := of_decide_eq_true h7
         refine rk [] 21 9 ⟨[(84, .t), (2, .f), (1, .p 0)], [(0, .cells (mr W xs ys [.i f0, .i f1, .i f2, .i t0, .i t1, .i t2, .i sz, .i lm, .sl false 8 (List.map thS ts), .i ph, .i sc, .i fl, .sl false 1 (List.map (SV.int .i64) os), .i brk]) 32)], 1⟩ [True, True, True, True] ⟨trivial, trivial, trivial, trivial, trivial⟩ ?_
         refine en ?_
         refine an ?_
         refine ct ?_
         refine rg [] 1 ⟨[(2, .f), (1, .p 0)], [(0, .cells (mr W xs ys [.i f0, .i f1, .i f2, .i t0, .i t1, .i t2, .i sz, .i lm, .sl false 8 (List.map thS ts), .i ph, .i sc, .i fl, .sl false 1 (List.map (SV.int .i64) os), .i brk]) 32)], 1⟩ [] trivial ?_
         refine xw_ret ?_
         refine an_ret ?_
         exact bs (.f) (Or.inr <| rfl)
        ·
         replace h7 : ¬ (4096 < sz) := of_decide_eq_false h7
         refine rk [(11, .bool (decide (lm < 1)))] 5 9 ⟨[(68, .bool (decide (lm < 1))), (2, .f), (1, .p 0)], [(0, .cells (mr W xs ys [.i f0, .i f1, .i f2, .i t0, .i t1, .i t2, .i sz, .i lm, .sl false 8 (List.map thS ts), .i ph, .i sc, .i fl, .sl false 1 (List.map (SV.int .i64) os), .i brk]) 32)], 1⟩ [True, (decide (lm < 1)) = (decide (lm < 1)), True] ⟨trivial, rfl, trivial, trivial⟩ ?_
         refine splitr 68 (x := (decide (lm < 1))) (by kernel_rfl) (fun h8 => ?_) (fun h8 => ?_)
         ·
          replace h8 : lm < 1 := of_decide_eq_true h8
          refine rk [] 16 14 ⟨[(84, .t), (2, .f), (1, .p 0)], [(0, .cells (mr W xs ys [.i f0, .i f1, .i f2, .i t0, .i t1, .i t2, .i sz, .i lm, .sl false 8 (List.map thS ts), .i ph, .i sc, .i fl, .sl false 1 (List.map (SV.int .i64) os), .i brk]) 32)], 1⟩ [True, True, True] ⟨trivial, trivial, trivial, trivial⟩ ?_
          refine en ?_
          refine an ?_
          refine ct ?_
          refine rg [] 1 ⟨[(2, .f), (1, .p 0)], [(0, .cells (mr W xs ys [.i f0, .i f1, .i f2, .i t0, .i t1, .i t2, .i sz, .i lm, .sl false 8 (List.map thS ts), .i ph, .i sc, .i fl, .sl false 1 (List.map (SV.int .i64) os), .i brk]) 32)], 1⟩ [] trivial ?_
          refine xw_ret ?_
          refine an_ret ?_
          exact bs (.f) (Or.inr <| rfl)
         ·
          replace h8 : ¬ (lm < 1) := of_decide_eq_false h8
          refine rk [(16, .bool (decide (64 < lm)))] 5 14 ⟨[(73, .bool (decide (64 < lm))), (2, .f), (1, .p 0)], [(0, .cells (mr W xs ys [.i f0, .i f1, .i f2, .i t0, .i t1, .i t2, .i sz, .i lm, .sl false 8 (List.map thS ts), .i ph, .i sc, .i fl, .sl false 1 (List.map (SV.int .i64) os), .i brk]) 32)], 1⟩ [True, (decide (64 < lm)) = (decide (64 < lm)), True] ⟨trivial, rfl, trivial, trivial⟩ ?_
          refine splitr 73 (x := (decide (64 < lm))) (by kernel_rfl) (fun h9 => ?_) (fun h9 => ?_)
          ·
           replace h9 : 64 < lm := of_decide_eq_true h9
           refine rk [] 11 19 ⟨[(84, .t), (2, .f), (1, .p 0)], [(0, .cells (mr W xs ys [.i f0, .i f1, .i f2, .i t0, .i t1, .i t2, .i sz, .i lm, .sl false 8 (List.map thS ts), .i ph, .i sc, .i fl, .sl false 1 (List.map (SV.int .i64) os), .i brk]) 32)], 1⟩ [True, True] ⟨trivial, trivial, trivial⟩ ?_
           refine en ?_
           refine an ?_
           refine ct ?_
           refine rg [] 1 ⟨[(2, .f), (1, .p 0)], [(0, .cells (mr W xs ys [.i f0, .i f1, .i f2, .i t0, .i t1, .i t2, .i sz, .i lm, .sl false 8 (List.map thS ts), .i ph, .i sc, .i fl, .sl false 1 (List.map (SV.int .i64) os), .i brk]) 32)], 1⟩ [] trivial ?_
           refine xw_ret ?_
           refine an_ret ?_
           exact bs (.f) (Or.inr <| rfl)
          ·
           replace h9 : ¬ (64 < lm) := of_decide_eq_false h9
           refine rk [(21, .i ((ts).length : Int)), (22, .bool (decide (((ts).length : Int) < 1)))] 6 19 ⟨[(79, .bool (decide (((ts).length : Int) < 1))), (2, .f), (1, .p 0)], [(0, .cells (mr W xs ys [.i f0, .i f1, .i f2, .i t0, .i t1, .i t2, .i sz, .i lm, .sl false 8 (List.map thS ts), .i ph, .i sc, .i fl, .sl false 1 (List.map (SV.int .i64) os), .i brk]) 32)], 1⟩ [True, ((((List.map thS ts)).length : Nat) : Int) = ((ts).length : Int), (decide (((ts).length : Int) < 1)) = (decide (((ts).length : Int) < 1)), True] ⟨trivial, (by simp), rfl, trivial, trivial⟩ ?_
           refine splitr 79 (x := (decide (((ts).length : Int) < 1))) (by kernel_rfl) (fun h10 => ?_) (fun h10 => ?_)
           ·
            replace h10 : (ts.length : Int) < 1 := of_decide_eq_true h10
            refine rk [] 5 25 ⟨[(84, .t), (2, .f), (1, .p 0)], [(0, .cells (mr W xs ys [.i f0, .i f1, .i f2, .i t0, .i t1, .i t2, .i sz, .i lm, .sl false 8 (List.map thS ts), .i ph, .i sc, .i fl, .sl false 1 (List.map (SV.int .i64) os), .i brk]) 32)], 1⟩ [True] ⟨trivial, trivial⟩ ?_
            refine en ?_
            refine an ?_
            refine ct ?_
            refine rg [] 1 ⟨[(2, .f), (1, .p 0)], [(0, .cells (mr W xs ys [.i f0, .i f1, .i f2, .i t0, .i t1, .i t2, .i sz, .i lm, .sl false 8 (List.map thS ts), .i ph, .i sc, .i fl, .sl false 1 (List.map (SV.int .i64) os), .i brk]) 32)], 1⟩ [] trivial ?_
            refine xw_ret ?_
            refine an_ret ?_
            exact bs (.f) (Or.inr <| rfl)
           ·
            replace h10 : ¬ ((ts.length : Int) < 1) := of_decide_eq_false h10
            refine rk [(27, .i ((ts).length : Int)), (28, .bool (decide (4 < ((ts).length : Int))))] 5 25 ⟨[(84, .bool (decide (4 < ((ts).length : Int)))), (2, .f), (1, .p 0)], [(0, .cells (mr W xs ys [.i f0, .i f1, .i f2, .i t0, .i t1, .i t2, .i sz, .i lm, .sl false 8 (List.map thS ts), .i ph, .i sc, .i fl, .sl false 1 (List.map (SV.int .i64) os), .i brk]) 32)], 1⟩ [True, ((((List.map thS ts)).length : Nat) : Int) = ((ts).length : Int), (decide (4 < ((ts).length : Int))) = (decide (4 < ((ts).length : Int))), True] ⟨trivial, (by simp), rfl, trivial, trivial⟩ ?_
            refine en ?_
            refine an ?_
            refine xw_cond (b := (decide (4 < ((ts).length : Int)))) (by kernel_rfl) (fun h11 => ?_) (fun h11 => ?_)
            ·
             replace h11 : 4 < (ts.length : Int) := of_decide_eq_true h11
             refine rg [] 1 ⟨[(2, .f), (1, .p 0)], [(0, .cells (mr W xs ys [.i f0, .i f1, .i f2, .i t0, .i t1, .i t2, .i sz, .i lm, .sl false 8 (List.map thS ts), .i ph, .i sc, .i fl, .sl false 1 (List.map (SV.int .i64) os), .i brk]) 32)], 1⟩ [] trivial ?_
             refine xw_ret ?_
             refine an_ret ?_
             exact bs (.f) (Or.inr <| rfl)
            ·
             replace h11 : ¬ (4 < (ts.length : Int)) := of_decide_eq_false h11
             refine xw_skip ?_
             refine an ?_
             refine xw_seq ?_
             refine rg [] 1 ⟨[(6, .i 0), (2, .f), (1, .p 0)], [(0, .cells (mr W xs ys [.i f0, .i f1, .i f2, .i t0, .i t1, .i t2, .i sz, .i lm, .sl false 8 (List.map thS ts), .i ph, .i sc, .i fl, .sl false 1 (List.map (SV.int .i64) os), .i brk]) 32)], 1⟩ [] trivial ?_
             refine xw_block ?_
             refine xw_loop (α := {q : Int // (0 ≤ q) ∧ (q ≤ (ts.length : Int))}) (fun p => ⟨[(6, .i p.1), (2, .f), (1, .p 0)], [(0, .cells (mr W xs ys [.i f0, .i f1, .i f2, .i t0, .i t1, .i t2, .i sz, .i lm, .sl false 8 (List.map thS ts), .i ph, .i sc, .i fl, .sl false 1 (List.map (SV.int .i64) os), .i brk]) 32)], 1⟩) (fun p => ((ts.length : Int) - p.1).toNat) ⟨0, ⟨(by omega), (by omega)⟩⟩ (le_of [] [(0 : Int) = 0, false = false, (W : Int) = W, (false = true → false = true), ((m64 xs) : List SV) = (m64 xs), (false = true → false = true), ((m64 ys) : List SV) = (m64 ys), (f0 : Int) = f0, (f1 : Int) = f1, (f2 : Int) = f2, (t0 : Int) = t0, (t1 : Int) = t1, (t2 : Int) = t2, (sz : Int) = sz, (lm : Int) = lm, (false = true → false = true), ((List.map thS ts) : List SV) = (List.map thS ts), (ph : Int) = ph, (sc : Int) = sc, (fl : Int) = fl, (false = true → false = true), ((List.map (SV.int .i64) os) : List SV) = (List.map (SV.int .i64) os), (brk : Int) = brk] (by kernel_rfl) ⟨rfl, rfl, rfl, id, rfl, id, rfl, rfl, rfl, rfl, rfl, rfl, rfl, rfl, rfl, id, rfl, rfl, rfl, rfl, id, rfl, rfl, trivial⟩) ?_
             rintro ⟨i1, h12, h13⟩
             show XW _ _ _ _ _ _ ⟨[(6, .int .i64 i1), (2, .bool false), (1, .loc 0 0)], [(0, .cells (mr W xs ys [.int .i64 f0, .int .i64 f1, .int .i64 f2, .int .i64 t0, .int .i64 t1, .int .i64 t2, .int .i64 sz, .int .i64 lm, .sl false 8 (List.map thS ts), .int .i64 ph, .int .i64 sc, .int .i64 fl, .sl false 1 (List.map (SV.int .i64) os), .int .i64 brk]) 32)], 1⟩
             refine xw_seq ?_
             refine rg [(3, .i ((ts).length : Int)), (4, .bool (decide (i1 < ((ts).length : Int))))] 5 ⟨[(89, .bool (decide (i1 < ((ts).length : Int)))), (6, .i i1), (2, .f), (1, .p 0)], [(0, .cells (mr W xs ys [.i f0, .i f1, .i f2, .i t0, .i t1, .i t2, .i sz, .i lm, .sl false 8 (List.map thS ts), .i ph, .i sc, .i fl, .sl false 1 (List.map (SV.int .i64) os), .i brk]) 32)], 1⟩ [True, ((((List.map thS ts)).length : Nat) : Int) = ((ts).length : Int), (decide (i1 < ((ts).length : Int))) = (decide (i1 < ((ts).length : Int)))] ⟨trivial, (by simp), rfl, trivial⟩ ?_
             refine xw_cond (b := (decide (i1 < ((ts).length : Int)))) (by kernel_rfl) (fun h14 => ?_) (fun h14 => ?_)
             ·
              replace h14 : i1 < (ts.length : Int) := of_decide_eq_true h14
              refine xw_skip ?_
              refine an ?_
              refine xw_seq ?_
              refine xw_block ?_
              refine xw_seq ?_
              refine reg ?_
              refine rk [(3, .agg [.sl false 1 (m64 (Th.st (thA ts i1))), .i (Th.b0 (thA ts i1)), .i (Th.b1 (thA ts i1)), .sl false 2 (List.map entS (Th.lg (thA ts i1))), .sl false 8 (List.map opS (Th.lf (thA ts i1))), .sl false 2 (List.map entS (Th.pd (thA ts i1))), .bool (Th.wt (thA ts i1)), .sl false 3 (List.map ansS (Th.dn (thA ts i1)))])] 4 0 ⟨[(95, .elt (.agg [.sl false 1 (m64 (Th.st (thA ts i1))), .i (Th.b0 (thA ts i1)), .i (Th.b1 (thA ts i1)), .sl false 2 (List.map entS (Th.lg (thA ts i1))), .sl false 8 (List.map opS (Th.lf (thA ts i1))), .sl false 2 (List.map entS (Th.pd (thA ts i1))), .bool (Th.wt (thA ts i1)), .sl false 3 (List.map ansS (Th.dn (thA ts i1)))])), (6, .i i1), (2, .f), (1, .p 0)], [(0, .cells (mr W xs ys [.i f0, .i f1, .i f2, .i t0, .i t1, .i t2, .i sz, .i lm, .sl false 8 (List.map thS ts), .i ph, .i sc, .i fl, .sl false 1 (List.map (SV.int .i64) os), .i brk]) 32)], 1⟩ [True, (0 : Int) ≤ i1 ∧ i1 < ((((List.map thS ts)).length : Nat) : Int) ∧ ((List.map thS ts))[(i1 : Int).toNat]? = some (.agg [.sl false 1 (m64 (Th.st (thA ts i1))), .i (Th.b0 (thA ts i1)), .i (Th.b1 (thA ts i1)), .sl false 2 (List.map entS (Th.lg (thA ts i1))), .sl false 8 (List.map opS (Th.lf (thA ts i1))), .sl false 2 (List.map entS (Th.pd (thA ts i1))), .bool (Th.wt (thA ts i1)), .sl false 3 (List.map ansS (Th.dn (thA ts i1)))])] ⟨trivial, (ix_th (by omega) (by first | omega | (simp only [len_st]; omega) | (simp; done) | (simp; omega) | (simp [len_st, len_stx, len_sty, len_zx, len_zy]; omega))), trivial⟩ ?_
              have h15 : U64s (Th.st (thA ts i1)) := (Ths.at (by first | assumption | exact U64s.st (by assumption) _ (by omega)) _).1
              have h16 : ((Th.st (thA ts i1)).length : Int) * 8 ≤ 140737488355000 := (Ths.at (by first | assumption | exact U64s.st (by assumption) _ (by omega)) _).2.1
              have h17 : (-9223372036854775808 ≤ (Th.b0 (thA ts i1)) ∧ (Th.b0 (thA ts i1)) ≤ 9223372036854775807) := (Ths.at (by first | assumption | exact U64s.st (by assumption) _ (by omega)) _).2.2.1
              have h18 : (-9223372036854775808 ≤ (Th.b1 (thA ts i1)) ∧ (Th.b1 (thA ts i1)) ≤ 9223372036854775807) := (Ths.at (by first | assumption | exact U64s.st (by assumption) _ (by omega)) _).2.2.2.1
              have h19 : Ents (Th.lg (thA ts i1)) := (Ths.at (by first | assumption | exact U64s.st (by assumption) _ (by omega)) _).2.2.2.2.1
              have h20 : ((Th.lg (thA ts i1)).length : Int) * 16 ≤ 140737488355000 := (Ths.at (by first | assumption | exact U64s.st (by assumption) _ (by omega)) _).2.2.2.2.2.1
              have h21 : Ops (Th.lf (thA ts i1)) := (Ths.at (by first | assumption | exact U64s.st (by assumption) _ (by omega)) _).2.2.2.2.2.2.1
              have h22 : ((Th.lf (thA ts i1)).length : Int) * 64 ≤ 140737488355000 := (Ths.at (by first | assumption | exact U64s.st (by assumption) _ (by omega)) _).2.2.2.2.2.2.2.1
              have h23 : Ents (Th.pd (thA ts i1)) := (Ths.at (by first | assumption | exact U64s.st (by assumption) _ (by omega)) _).2.2.2.2.2.2.2.2.1
              have h24 : ((Th.pd (thA ts i1)).length : Int) * 16 ≤ 140737488355000 := (Ths.at (by first | assumption | exact U64s.st (by assumption) _ (by omega)) _).2.2.2.2.2.2.2.2.2.1
              have h25 : Anss (Th.dn (thA ts i1)) := (Ths.at (by first | assumption | exact U64s.st (by assumption) _ (by omega)) _).2.2.2.2.2.2.2.2.2.2.1
              have h26 : ((Th.dn (thA ts i1)).length : Int) * 24 ≤ 140737488355000 := (Ths.at (by first | assumption | exact U64s.st (by assumption) _ (by omega)) _).2.2.2.2.2.2.2.2.2.2.2
              refine rk [] 3 4 ⟨[(7, .p 1), (6, .i i1), (2, .f), (1, .p 0)], [(1, .cells [.sl false 1 (m64 (Th.st (thA ts i1))), .i (Th.b0 (thA ts i1)), .i (Th.b1 (thA ts i1)), .sl false 2 (List.map entS (Th.lg (thA ts i1))), .sl false 8 (List.map opS (Th.lf (thA ts i1))), .sl false 2 (List.map entS (Th.pd (thA ts i1))), .bool (Th.wt (thA ts i1)), .sl false 3 (List.map ansS (Th.dn (thA ts i1)))] 44), (0, .cells (mr W xs ys [.i f0, .i f1, .i f2, .i t0, .i t1, .i t2, .i sz, .i lm, .sl false 8 (List.map thS ts), .i ph, .i sc, .i fl, .sl false 1 (List.map (SV.int .i64) os), .i brk]) 32)], 2⟩ [True, True] ⟨trivial, trivial, trivial⟩ ?_
              refine en ?_
              refine an ?_
              refine xw_seq ?_
              refine reg ?_
              refine rk [(3, .bool ((Th.b0 (thA ts i1)) == 0))] 5 0 ⟨[(101, .bool ((Th.b0 (thA ts i1)) == 0)), (7, .p 1), (6, .i i1), (2, .f), (1, .p 0)], [(1, .cells [.sl false 1 (m64 (Th.st (thA ts i1))), .i (Th.b0 (thA ts i1)), .i (Th.b1 (thA ts i1)), .sl false 2 (List.map entS (Th.lg (thA ts i1))), .sl false 8 (List.map opS (Th.lf (thA ts i1))), .sl false 2 (List.map entS (Th.pd (thA ts i1))), .bool (Th.wt (thA ts i1)), .sl false 3 (List.map ansS (Th.dn (thA ts i1)))] 44), (0, .cells (mr W xs ys [.i f0, .i f1, .i f2, .i t0, .i t1, .i t2, .i sz, .i lm, .sl false 8 (List.map thS ts), .i ph, .i sc, .i fl, .sl false 1 (List.map (SV.int .i64) os), .i brk]) 32)], 2⟩ [True, ((Th.b0 (thA ts i1)) == 0) = ((Th.b0 (thA ts i1)) == 0)] ⟨trivial, rfl, trivial⟩ ?_
              refine splitr 101 (x := ((Th.b0 (thA ts i1)) == 0)) (by kernel_rfl) (fun h27 => ?_) (fun h27 => ?_)
              ·
               replace h27 : (Th.b0 (thA ts i1)) = 0 := eq_of_beq h27
               refine rk [(8, .bool ((Th.b1 (thA ts i1)) == 0))] 6 5 ⟨[(8, .bool ((Th.b1 (thA ts i1)) == 0)), (7, .p 1), (6, .i i1), (2, .f), (1, .p 0)], [(1, .cells [.sl false 1 (m64 (Th.st (thA ts i1))), .i (Th.b0 (thA ts i1)), .i (Th.b1 (thA ts i1)), .sl false 2 (List.map entS (Th.lg (thA ts i1))), .sl false 8 (List.map opS (Th.lf (thA ts i1))), .sl false 2 (List.map entS (Th.pd (thA ts i1))), .bool (Th.wt (thA ts i1)), .sl false 3 (List.map ansS (Th.dn (thA ts i1)))] 44), (0, .cells (mr W xs ys [.i f0, .i f1, .i f2, .i t0, .i t1, .i t2, .i sz, .i lm, .sl false 8 (List.map thS ts), .i ph, .i sc, .i fl, .sl false 1 (List.map (SV.int .i64) os), .i brk]) 32)], 2⟩ [True, ((Th.b1 (thA ts i1)) == 0) = ((Th.b1 (thA ts i1)) == 0), True] ⟨trivial, rfl, trivial, trivial⟩ ?_
               refine en ?_
               refine an ?_
               refine xw_seq ?_
               refine reg ?_
               refine rk [] 3 0 ⟨[(109, .bool (!((Th.b1 (thA ts i1)) == 0))), (7, .p 1), (6, .i i1), (2, .f), (1, .p 0)], [(1, .cells [.sl false 1 (m64 (Th.st (thA ts i1))), .i (Th.b0 (thA ts i1)), .i (Th.b1 (thA ts i1)), .sl false 2 (List.map entS (Th.lg (thA ts i1))), .sl false 8 (List.map opS (Th.lf (thA ts i1))), .sl false 2 (List.map entS (Th.pd (thA ts i1))), .bool (Th.wt (thA ts i1)), .sl false 3 (List.map ansS (Th.dn (thA ts i1)))] 44), (0, .cells (mr W xs ys [.i f0, .i f1, .i f2, .i t0, .i t1, .i t2, .i sz, .i lm, .sl false 8 (List.map thS ts), .i ph, .i sc, .i fl, .sl false 1 (List.map (SV.int .i64) os), .i brk]) 32)], 2⟩ [] trivial ?_
               refine splitr 109 (x := (!((Th.b1 (thA ts i1)) == 0))) (by kernel_rfl) (fun h28 => ?_) (fun h28 => ?_)
               ·
                replace h28 : (Th.b1 (thA ts i1)) ≠ 0 := by first | (simp; done) | simpa using h28 | (simp at h28; omega)
                refine rk [(6, .f), (14, .bool (decide ((Th.b1 (thA ts i1)) < (Th.b0 (thA ts i1)))))] 14 3 ⟨[(123, .bool (decide ((Th.b1 (thA ts i1)) < (Th.b0 (thA ts i1))))), (109, .t), (7, .p 1), (6, .i i1), (2, .f), (1, .p 0)], [(1, .cells [.sl false 1 (m64 (Th.st (thA ts i1))), .i (Th.b0 (thA ts i1)), .i (Th.b1 (thA ts i1)), .sl false 2 (List.map entS (Th.lg (thA ts i1))), .sl false 8 (List.map opS (Th.lf (thA ts i1))), .sl false 2 (List.map entS (Th.pd (thA ts i1))), .bool (Th.wt (thA ts i1)), .sl false 3 (List.map ansS (Th.dn (thA ts i1)))] 44), (0, .cells (mr W xs ys [.i f0, .i f1, .i f2, .i t0, .i t1, .i t2, .i sz, .i lm, .sl false 8 (List.map thS ts), .i ph, .i sc, .i fl, .sl false 1 (List.map (SV.int .i64) os), .i brk]) 32)], 2⟩ [True, (decide ((Th.b0 (thA ts i1)) < 0)) = false, True, True, (decide ((Th.b1 (thA ts i1)) < (Th.b0 (thA ts i1)))) = (decide ((Th.b1 (thA ts i1)) < (Th.b0 (thA ts i1)))), True] ⟨trivial, decide_eq_false (by omega), trivial, trivial, rfl, trivial, trivial⟩ ?_
                refine splitr 123 (x := (decide ((Th.b1 (thA ts i1)) < (Th.b0 (thA ts i1))))) (by kernel_rfl) (fun h29 => ?_) (fun h29 => ?_)
                ·
                 replace h29 : (Th.b1 (thA ts i1)) < (Th.b0 (thA ts i1)) := of_decide_eq_true h29
                 refine rk [] 15 17 ⟨[(138, .t), (6, .i i1), (2, .f), (1, .p 0)], [(0, .cells (mr W xs ys [.i f0, .i f1, .i f2, .i t0, .i t1, .i t2, .i sz, .i lm, .sl false 8 (List.map thS ts), .i ph, .i sc, .i fl, .sl false 1 (List.map (SV.int .i64) os), .i brk]) 32)], 2⟩ [True, True, True] ⟨trivial, trivial, trivial, trivial⟩ ?_
                 refine en ?_
                 refine an ?_
                 refine ct ?_
                 refine rg [] 1 ⟨[(2, .f), (6, .i i1), (1, .p 0)], [(0, .cells (mr W xs ys [.i f0, .i f1, .i f2, .i t0, .i t1, .i t2, .i sz, .i lm, .sl false 8 (List.map thS ts), .i ph, .i sc, .i fl, .sl false 1 (List.map (SV.int .i64) os), .i brk]) 32)], 2⟩ [] trivial ?_
                 refine xw_ret ?_
                 refine ib_ret ?_
                 refine an_ret ?_
                 refine ag_ret ?_
                 refine ib_ret ?_
                 refine an_ret ?_
                 exact bs (.f) (Or.inr <| rfl)
                ·
                 replace h29 : ¬ ((Th.b1 (thA ts i1)) < (Th.b0 (thA ts i1))) := of_decide_eq_false h29
                 refine rk [(23, .bool (decide (f1 < (Th.b1 (thA ts i1)))))] 10 17 ⟨[(133, .bool (decide (f1 < (Th.b1 (thA ts i1))))), (7, .p 1), (6, .i i1), (2, .f), (1, .p 0)], [(1, .cells [.sl false 1 (m64 (Th.st (thA ts i1))), .i (Th.b0 (thA ts i1)), .i (Th.b1 (thA ts i1)), .sl false 2 (List.map entS (Th.lg (thA ts i1))), .sl false 8 (List.map opS (Th.lf (thA ts i1))), .sl false 2 (List.map entS (Th.pd (thA ts i1))), .bool (Th.wt (thA ts i1)), .sl false 3 (List.map ansS (Th.dn (thA ts i1)))] 44), (0, .cells (mr W xs ys [.i f0, .i f1, .i f2, .i t0, .i t1, .i t2, .i sz, .i lm, .sl false 8 (List.map thS ts), .i ph, .i sc, .i fl, .sl false 1 (List.map (SV.int .i64) os), .i brk]) 32)], 2⟩ [True, True, (decide (f1 < (Th.b1 (thA ts i1)))) = (decide (f1 < (Th.b1 (thA ts i1)))), True, True] ⟨trivial, trivial, rfl, trivial, trivial, trivial⟩ ?_
                 refine splitr 133 (x := (decide (f1 < (Th.b1 (thA ts i1))))) (by kernel_rfl) (fun h30 => ?_) (fun h30 => ?_)
                 ·
                  replace h30 : f1 < (Th.b1 (thA ts i1)) := of_decide_eq_true h30
                  refine rk [] 5 27 ⟨[(138, .t), (6, .i i1), (2, .f), (1, .p 0)], [(0, .cells (mr W xs ys [.i f0, .i f1, .i f2, .i t0, .i t1, .i t2, .i sz, .i lm, .sl false 8 (List.map thS ts), .i ph, .i sc, .i fl, .sl false 1 (List.map (SV.int .i64) os), .i brk]) 32)], 2⟩ [True] ⟨trivial, trivial⟩ ?_
                  refine en ?_
                  refine an ?_
                  refine ct ?_
                  refine rg [] 1 ⟨[(2, .f), (6, .i i1), (1, .p 0)], [(0, .cells (mr W xs ys [.i f0, .i f1, .i f2, .i t0, .i t1, .i t2, .i sz, .i lm, .sl false 8 (List.map thS ts), .i ph, .i sc, .i fl, .sl false 1 (List.map (SV.int .i64) os), .i brk]) 32)], 2⟩ [] trivial ?_
                  refine xw_ret ?_
                  refine ib_ret ?_
                  refine an_ret ?_
                  refine ag_ret ?_
                  refine ib_ret ?_
                  refine an_ret ?_
                  exact bs (.f) (Or.inr <| rfl)
                 ·
                  replace h30 : ¬ (f1 < (Th.b1 (thA ts i1))) := of_decide_eq_false h30
                  refine rk [(29, .i (((Th.pd (thA ts i1))).length : Int)), (30, .bool (decide (1 < (((Th.pd (thA ts i1))).length : Int))))] 5 27 ⟨[(138, .bool (decide (1 < (((Th.pd (thA ts i1))).length : Int)))), (6, .i i1), (2, .f), (1, .p 0)], [(0, .cells (mr W xs ys [.i f0, .i f1, .i f2, .i t0, .i t1, .i t2, .i sz, .i lm, .sl false 8 (List.map thS ts), .i ph, .i sc, .i fl, .sl false 1 (List.map (SV.int .i64) os), .i brk]) 32)], 2⟩ [True, ((((List.map entS (Th.pd (thA ts i1)))).length : Nat) : Int) = (((Th.pd (thA ts i1))).length : Int), (decide (1 < (((Th.pd (thA ts i1))).length : Int))) = (decide (1 < (((Th.pd (thA ts i1))).length : Int))), True] ⟨trivial, (by simp), rfl, trivial, trivial⟩ ?_
                  refine en ?_
                  refine an ?_
                  refine xw_cond (b := (decide (1 < (((Th.pd (thA ts i1))).length : Int)))) (by kernel_rfl) (fun h31 => ?_) (fun h31 => ?_)
                  ·
                   replace h31 : 1 < ((Th.pd (thA ts i1)).length : Int) := of_decide_eq_true h31
                   refine rg [] 1 ⟨[(2, .f), (6, .i i1), (1, .p 0)], [(0, .cells (mr W xs ys [.i f0, .i f1, .i f2, .i t0, .i t1, .i t2, .i sz, .i lm, .sl false 8 (List.map thS ts), .i ph, .i sc, .i fl, .sl false 1 (List.map (SV.int .i64) os), .i brk]) 32)], 2⟩ [] trivial ?_
                   refine xw_ret ?_
                   refine ib_ret ?_
                   refine an_ret ?_
                   refine ag_ret ?_
                   refine ib_ret ?_
                   refine an_ret ?_
                   exact bs (.f) (Or.inr <| rfl)
                  ·
                   replace h31 : ¬ (1 < ((Th.pd (thA ts i1)).length : Int)) := of_decide_eq_false h31
                   refine xw_skip ?_
                   refine ib ?_
                   refine an ?_
                   refine re [(1, .i (i1 + 1))] 3 ⟨[(6, .i (i1 + 1)), (2, .f), (1, .p 0)], [(0, .cells (mr W xs ys [.i f0, .i f1, .i f2, .i t0, .i t1, .i t2, .i sz, .i lm, .sl false 8 (List.map thS ts), .i ph, .i sc, .i fl, .sl false 1 (List.map (SV.int .i64) os), .i brk]) 32)], 2⟩ [IntKind.i64.wrap (i1 + 1) = (i1 + 1)] ⟨i64_eq (by omega) (by omega), trivial⟩ ?_
                   exact ag ⟨(i1 + 1), ⟨(by omega), (by omega)⟩⟩ (le_of [] [((i1 + 1) : Int) = (i1 + 1), false = false, (W : Int) = W, (false = true → false = true), ((m64 xs) : List SV) = (m64 xs), (false = true → false = true), ((m64 ys) : List SV) = (m64 ys), (f0 : Int) = f0, (f1 : Int) = f1, (f2 : Int) = f2, (t0 : Int) = t0, (t1 : Int) = t1, (t2 : Int) = t2, (sz : Int) = sz, (lm : Int) = lm, (false = true → false = true), ((List.map thS ts) : List SV) = (List.map thS ts), (ph : Int) = ph, (sc : Int) = sc, (fl : Int) = fl, (false = true → false = true), ((List.map (SV.int .i64) os) : List SV) = (List.map (SV.int .i64) os), (brk : Int) = brk] (by kernel_rfl) ⟨rfl, rfl, rfl, id, rfl, id, rfl, rfl, rfl, rfl, rfl, rfl, rfl, rfl, rfl, id, rfl, rfl, rfl, rfl, id, rfl, rfl, trivial⟩) (by show ((ts.length : Int) - (i1 + 1)).toNat < ((ts.length : Int) - i1).toNat; omega)
               ·
                replace h28 : (Th.b1 (thA ts i1)) = 0 := by first | (simp; done) | simpa using h28
                refine rk [(29, .i (((Th.pd (thA ts i1))).length : Int)), (30, .bool (decide (1 < (((Th.pd (thA ts i1))).length : Int))))] 29 3 ⟨[(138, .bool (decide (1 < (((Th.pd (thA ts i1))).length : Int)))), (6, .i i1), (2, .f), (1, .p 0)], [(0, .cells (mr W xs ys [.i f0, .i f1, .i f2, .i t0, .i t1, .i t2, .i sz, .i lm, .sl false 8 (List.map thS ts), .i ph, .i sc, .i fl, .sl false 1 (List.map (SV.int .i64) os), .i brk]) 32)], 2⟩ [True, True, ((((List.map entS (Th.pd (thA ts i1)))).length : Nat) : Int) = (((Th.pd (thA ts i1))).length : Int), (decide (1 < (((Th.pd (thA ts i1))).length : Int))) = (decide (1 < (((Th.pd (thA ts i1))).length : Int))), True] ⟨trivial, trivial, (by simp), rfl, trivial, trivial⟩ ?_
                refine en ?_
                refine an ?_
                refine xw_cond (b := (decide (1 < (((Th.pd (thA ts i1))).length : Int)))) (by kernel_rfl) (fun h29 => ?_) (fun h29 => ?_)
                ·
                 replace h29 : 1 < ((Th.pd (thA ts i1)).length : Int) := of_decide_eq_true h29
                 refine rg [] 1 ⟨[(2, .f), (6, .i i1), (1, .p 0)], [(0, .cells (mr W xs ys [.i f0, .i f1, .i f2, .i t0, .i t1, .i t2, .i sz, .i lm, .sl false 8 (List.map thS ts), .i ph, .i sc, .i fl, .sl false 1 (List.map (SV.int .i64) os), .i brk]) 32)], 2⟩ [] trivial ?_
                 refine xw_ret ?_
                 refine ib_ret ?_
                 refine an_ret ?_
                 refine ag_ret ?_
                 refine ib_ret ?_
                 refine an_ret ?_
                 exact bs (.f) (Or.inr <| rfl)
                ·
                 replace h29 : ¬ (1 < ((Th.pd (thA ts i1)).length : Int)) := of_decide_eq_false h29
                 refine xw_skip ?_
                 refine ib ?_
                 refine an ?_
                 refine re [(1, .i (i1 + 1))] 3 ⟨[(6, .i (i1 + 1)), (2, .f), (1, .p 0)], [(0, .cells (mr W xs ys [.i f0, .i f1, .i f2, .i t0, .i t1, .i t2, .i sz, .i lm, .sl false 8 (List.map thS ts), .i ph, .i sc, .i fl, .sl false 1 (List.map (SV.int .i64) os), .i brk]) 32)], 2⟩ [IntKind.i64.wrap (i1 + 1) = (i1 + 1)] ⟨i64_eq (by omega) (by omega), trivial⟩ ?_
                 exact ag ⟨(i1 + 1), ⟨(by omega), (by omega)⟩⟩ (le_of [] [((i1 + 1) : Int) = (i1 + 1), false = false, (W : Int) = W, (false = true → false = true), ((m64 xs) : List SV) = (m64 xs), (false = true → false = true), ((m64 ys) : List SV) = (m64 ys), (f0 : Int) = f0, (f1 : Int) = f1, (f2 : Int) = f2, (t0 : Int) = t0, (t1 : Int) = t1, (t2 : Int) = t2, (sz : Int) = sz, (lm : Int) = lm, (false = true → false = true), ((List.map thS ts) : List SV) = (List.map thS ts), (ph : Int) = ph, (sc : Int) = sc, (fl : Int) = fl, (false = true → false = true), ((List.map (SV.int .i64) os) : List SV) = (List.map (SV.int .i64) os), (brk : Int) = brk] (by kernel_rfl) ⟨rfl, rfl, rfl, id, rfl, id, rfl, rfl, rfl, rfl, rfl, rfl, rfl, rfl, rfl, id, rfl, rfl, rfl, rfl, id, rfl, rfl, trivial⟩) (by show ((ts.length : Int) - (i1 + 1)).toNat < ((ts.length : Int) - i1).toNat; omega)
              ·
               replace h27 : (Th.b0 (thA ts i1)) ≠ 0 := ne_of_beq_false h27
               refine rk [] 6 5 ⟨[(8, .f), (7, .p 1), (6, .i i1), (2, .f), (1, .p 0)], [(1, .cells [.sl false 1 (m64 (Th.st (thA ts i1))), .i (Th.b0 (thA ts i1)), .i (Th.b1 (thA ts i1)), .sl false 2 (List.map entS (Th.lg (thA ts i1))), .sl false 8 (List.map opS (Th.lf (thA ts i1))), .sl false 2 (List.map entS (Th.pd (thA ts i1))), .bool (Th.wt (thA ts i1)), .sl false 3 (List.map ansS (Th.dn (thA ts i1)))] 44), (0, .cells (mr W xs ys [.i f0, .i f1, .i f2, .i t0, .i t1, .i t2, .i sz, .i lm, .sl false 8 (List.map thS ts), .i ph, .i sc, .i fl, .sl false 1 (List.map (SV.int .i64) os), .i brk]) 32)], 2⟩ [True] ⟨trivial, trivial⟩ ?_
               refine en ?_
               refine an ?_
               refine xw_seq ?_
               refine reg ?_
               refine rk [(6, .bool (decide ((Th.b0 (thA ts i1)) < 0)))] 8 0 ⟨[(114, .bool (decide ((Th.b0 (thA ts i1)) < 0))), (109, .t), (7, .p 1), (6, .i i1), (2, .f), (1, .p 0)], [(1, .cells [.sl false 1 (m64 (Th.st (thA ts i1))), .i (Th.b0 (thA ts i1)), .i (Th.b1 (thA ts i1)), .sl false 2 (List.map entS (Th.lg (thA ts i1))), .sl false 8 (List.map opS (Th.lf (thA ts i1))), .sl false 2 (List.map entS (Th.pd (thA ts i1))), .bool (Th.wt (thA ts i1)), .sl false 3 (List.map ansS (Th.dn (thA ts i1)))] 44), (0, .cells (mr W xs ys [.i f0, .i f1, .i f2, .i t0, .i t1, .i t2, .i sz, .i lm, .sl false 8 (List.map thS ts), .i ph, .i sc, .i fl, .sl false 1 (List.map (SV.int .i64) os), .i brk]) 32)], 2⟩ [True, (decide ((Th.b0 (thA ts i1)) < 0)) = (decide ((Th.b0 (thA ts i1)) < 0))] ⟨trivial, rfl, trivial⟩ ?_
               refine splitr 114 (x := (decide ((Th.b0 (thA ts i1)) < 0))) (by kernel_rfl) (fun h28 => ?_) (fun h28 => ?_)
               ·
                replace h28 : (Th.b0 (thA ts i1)) < 0 := of_decide_eq_true h28
                refine rk [] 24 8 ⟨[(138, .t), (6, .i i1), (2, .f), (1, .p 0)], [(0, .cells (mr W xs ys [.i f0, .i f1, .i f2, .i t0, .i t1, .i t2, .i sz, .i lm, .sl false 8 (List.map thS ts), .i ph, .i sc, .i fl, .sl false 1 (List.map (SV.int .i64) os), .i brk]) 32)], 2⟩ [True, True, True, True] ⟨trivial, trivial, trivial, trivial, trivial⟩ ?_
                refine en ?_
                refine an ?_
                refine ct ?_
                refine rg [] 1 ⟨[(2, .f), (6, .i i1), (1, .p 0)], [(0, .cells (mr W xs ys [.i f0, .i f1, .i f2, .i t0, .i t1, .i t2, .i sz, .i lm, .sl false 8 (List.map thS ts), .i ph, .i sc, .i fl, .sl false 1 (List.map (SV.int .i64) os), .i brk]) 32)], 2⟩ [] trivial ?_
                refine xw_ret ?_
                refine ib_ret ?_
                refine an_ret ?_
                refine ag_ret ?_
                refine ib_ret ?_
                refine an_ret ?_
                exact bs (.f) (Or.inr <| rfl)
               ·
                replace h28 : ¬ ((Th.b0 (thA ts i1)) < 0) := of_decide_eq_false h28
                refine rk [(14, .bool (decide ((Th.b1 (thA ts i1)) < (Th.b0 (thA ts i1)))))] 9 8 ⟨[(123, .bool (decide ((Th.b1 (thA ts i1)) < (Th.b0 (thA ts i1))))), (109, .t), (7, .p 1), (6, .i i1), (2, .f), (1, .p 0)], [(1, .cells [.sl false 1 (m64 (Th.st (thA ts i1))), .i (Th.b0 (thA ts i1)), .i (Th.b1 (thA ts i1)), .sl false 2 (List.map entS (Th.lg (thA ts i1))), .sl false 8 (List.map opS (Th.lf (thA ts i1))), .sl false 2 (List.map entS (Th.pd (thA ts i1))), .bool (Th.wt (thA ts i1)), .sl false 3 (List.map ansS (Th.dn (thA ts i1)))] 44), (0, .cells (mr W xs ys [.i f0, .i f1, .i f2, .i t0, .i t1, .i t2, .i sz, .i lm, .sl false 8 (List.map thS ts), .i ph, .i sc, .i fl, .sl false 1 (List.map (SV.int .i64) os), .i brk]) 32)], 2⟩ [True, True, (decide ((Th.b1 (thA ts i1)) < (Th.b0 (thA ts i1)))) = (decide ((Th.b1 (thA ts i1)) < (Th.b0 (thA ts i1)))), True] ⟨trivial, trivial, rfl, trivial, trivial⟩ ?_
                refine splitr 123 (x := (decide ((Th.b1 (thA ts i1)) < (Th.b0 (thA ts i1))))) (by kernel_rfl) (fun h29 => ?_) (fun h29 => ?_)
                ·
                 replace h29 : (Th.b1 (thA ts i1)) < (Th.b0 (thA ts i1)) := of_decide_eq_true h29
                 refine rk [] 15 17 ⟨[(138, .t), (6, .i i1), (2, .f), (1, .p 0)], [(0, .cells (mr W xs ys [.i f0, .i f1, .i f2, .i t0, .i t1, .i t2, .i sz, .i lm, .sl false 8 (List.map thS ts), .i ph, .i sc, .i fl, .sl false 1 (List.map (SV.int .i64) os), .i brk]) 32)], 2⟩ [True, True, True] ⟨trivial, trivial, trivial, trivial⟩ ?_
                 refine en ?_
                 refine an ?_
                 refine ct ?_
                 refine rg [] 1 ⟨[(2, .f), (6, .i i1), (1, .p 0)], [(0, .cells (mr W xs ys [.i f0, .i f1, .i f2, .i t0, .i t1, .i t2, .i sz, .i lm, .sl false 8 (List.map thS ts), .i ph, .i sc, .i fl, .sl false 1 (List.map (SV.int .i64) os), .i brk]) 32)], 2⟩ [] trivial ?_
                 refine xw_ret ?_
                 refine ib_ret ?_
                 refine an_ret ?_
                 refine ag_ret ?_
                 refine ib_ret ?_
                 refine an_ret ?_
                 exact bs (.f) (Or.inr <| rfl)
                ·
                 replace h29 : ¬ ((Th.b1 (thA ts i1)) < (Th.b0 (thA ts i1))) := of_decide_eq_false h29
                 refine rk [(23, .bool (decide (f1 < (Th.b1 (thA ts i1)))))] 10 17 ⟨[(133, .bool (decide (f1 < (Th.b1 (thA ts i1))))), (7, .p 1), (6, .i i1), (2, .f), (1, .p 0)], [(1, .cells [.sl false 1 (m64 (Th.st (thA ts i1))), .i (Th.b0 (thA ts i1)), .i (Th.b1 (thA ts i1)), .sl false 2 (List.map entS (Th.lg (thA ts i1))), .sl false 8 (List.map opS (Th.lf (thA ts i1))), .sl false 2 (List.map entS (Th.pd (thA ts i1))), .bool (Th.wt (thA ts i1)), .sl false 3 (List.map ansS (Th.dn (thA ts i1)))] 44), (0, .cells (mr W xs ys [.i f0, .i f1, .i f2, .i t0, .i t1, .i t2, .i sz, .i lm, .sl false 8 (List.map thS ts), .i ph, .i sc, .i fl, .sl false 1 (List.map (SV.int .i64) os), .i brk]) 32)], 2⟩ [True, True, (decide (f1 < (Th.b1 (thA ts i1)))) = (decide (f1 < (Th.b1 (thA ts i1)))), True, True] ⟨trivial, trivial, rfl, trivial, trivial, trivial⟩ ?_
                 refine splitr 133 (x := (decide (f1 < (Th.b1 (thA ts i1))))) (by kernel_rfl) (fun h30 => ?_) (fun h30 => ?_)
                 ·
                  replace h30 : f1 < (Th.b1 (thA ts i1)) := of_decide_eq_true h30
                  refine rk [] 5 27 ⟨[(138, .t), (6, .i i1), (2, .f), (1, .p 0)], [(0, .cells (mr W xs ys [.i f0, .i f1, .i f2, .i t0, .i t1, .i t2, .i sz, .i lm, .sl false 8 (List.map thS ts), .i ph, .i sc, .i fl, .sl false 1 (List.map (SV.int .i64) os), .i brk]) 32)], 2⟩ [True] ⟨trivial, trivial⟩ ?_
                  refine en ?_
                  refine an ?_
                  refine ct ?_
                  refine rg [] 1 ⟨[(2, .f), (6, .i i1), (1, .p 0)], [(0, .cells (mr W xs ys [.i f0, .i f1, .i f2, .i t0, .i t1, .i t2, .i sz, .i lm, .sl false 8 (List.map thS ts), .i ph, .i sc, .i fl, .sl false 1 (List.map (SV.int .i64) os), .i brk]) 32)], 2⟩ [] trivial ?_
                  refine xw_ret ?_
                  refine ib_ret ?_
                  refine an_ret ?_
                  refine ag_ret ?_
                  refine ib_ret ?_
                  refine an_ret ?_
                  exact bs (.f) (Or.inr <| rfl)
                 ·
                  replace h30 : ¬ (f1 < (Th.b1 (thA ts i1))) := of_decide_eq_false h30
                  refine rk [(29, .i (((Th.pd (thA ts i1))).length : Int)), (30, .bool (decide (1 < (((Th.pd (thA ts i1))).length : Int))))] 5 27 ⟨[(138, .bool (decide (1 < (((Th.pd (thA ts i1))).length : Int)))), (6, .i i1), (2, .f), (1, .p 0)], [(0, .cells (mr W xs ys [.i f0, .i f1, .i f2, .i t0, .i t1, .i t2, .i sz, .i lm, .sl false 8 (List.map thS ts), .i ph, .i sc, .i fl, .sl false 1 (List.map (SV.int .i64) os), .i brk]) 32)], 2⟩ [True, ((((List.map entS (Th.pd (thA ts i1)))).length : Nat) : Int) = (((Th.pd (thA ts i1))).length : Int), (decide (1 < (((Th.pd (thA ts i1))).length : Int))) = (decide (1 < (((Th.pd (thA ts i1))).length : Int))), True] ⟨trivial, (by simp), rfl, trivial, trivial⟩ ?_
                  refine en ?_
                  refine an ?_
                  refine xw_cond (b := (decide (1 < (((Th.pd (thA ts i1))).length : Int)))) (by kernel_rfl) (fun h31 => ?_) (fun h31 => ?_)
                  ·
                   replace h31 : 1 < ((Th.pd (thA ts i1)).length : Int) := of_decide_eq_true h31
                   refine rg [] 1 ⟨[(2, .f), (6, .i i1), (1, .p 0)], [(0, .cells (mr W xs ys [.i f0, .i f1, .i f2, .i t0, .i t1, .i t2, .i sz, .i lm, .sl false 8 (List.map thS ts), .i ph, .i sc, .i fl, .sl false 1 (List.map (SV.int .i64) os), .i brk]) 32)], 2⟩ [] trivial ?_
                   refine xw_ret ?_
                   refine ib_ret ?_
                   refine an_ret ?_
                   refine ag_ret ?_
                   refine ib_ret ?_
                   refine an_ret ?_
                   exact bs (.f) (Or.inr <| rfl)
                  ·
                   replace h31 : ¬ (1 < ((Th.pd (thA ts i1)).length : Int)) := of_decide_eq_false h31
                   refine xw_skip ?_
                   refine ib ?_
                   refine an ?_
                   refine re [(1, .i (i1 + 1))] 3 ⟨[(6, .i (i1 + 1)), (2, .f), (1, .p 0)], [(0, .cells (mr W xs ys [.i f0, .i f1, .i f2, .i t0, .i t1, .i t2, .i sz, .i lm, .sl false 8 (List.map thS ts), .i ph, .i sc, .i fl, .sl false 1 (List.map (SV.int .i64) os), .i brk]) 32)], 2⟩ [IntKind.i64.wrap (i1 + 1) = (i1 + 1)] ⟨i64_eq (by omega) (by omega), trivial⟩ ?_
                   exact ag ⟨(i1 + 1), ⟨(by omega), (by omega)⟩⟩ (le_of [] [((i1 + 1) : Int) = (i1 + 1), false = false, (W : Int) = W, (false = true → false = true), ((m64 xs) : List SV) = (m64 xs), (false = true → false = true), ((m64 ys) : List SV) = (m64 ys), (f0 : Int) = f0, (f1 : Int) = f1, (f2 : Int) = f2, (t0 : Int) = t0, (t1 : Int) = t1, (t2 : Int) = t2, (sz : Int) = sz, (lm : Int) = lm, (false = true → false = true), ((List.map thS ts) : List SV) = (List.map thS ts), (ph : Int) = ph, (sc : Int) = sc, (fl : Int) = fl, (false = true → false = true), ((List.map (SV.int .i64) os) : List SV) = (List.map (SV.int .i64) os), (brk : Int) = brk] (by kernel_rfl) ⟨rfl, rfl, rfl, id, rfl, id, rfl, rfl, rfl, rfl, rfl, rfl, rfl, rfl, rfl, id, rfl, rfl, rfl, rfl, id, rfl, rfl, trivial⟩) (by show ((ts.length : Int) - (i1 + 1)).toNat < ((ts.length : Int) - i1).toNat; omega)
             ·
              replace h14 : ¬ (i1 < (ts.length : Int)) := of_decide_eq_false h14
              refine xw_exit ?_
              refine an_exit ?_
              refine ag_exit ?_
              refine ib_same ?_
              refine an ?_
              refine xw_seq ?_
              refine reg ?_
              refine rk [(2, .bool (decide (0 ≤ ph)))] 4 0 ⟨[(142, .bool (decide (0 ≤ ph))), (2, .f), (1, .p 0)], [(0, .cells (mr W xs ys [.i f0, .i f1, .i f2, .i t0, .i t1, .i t2, .i sz, .i lm, .sl false 8 (List.map thS ts), .i ph, .i sc, .i fl, .sl false 1 (List.map (SV.int .i64) os), .i brk]) 32)], 1⟩ [True, (decide (0 ≤ ph)) = (decide (0 ≤ ph))] ⟨trivial, rfl, trivial⟩ ?_
              refine splitr 142 (x := (decide (0 ≤ ph))) (by kernel_rfl) (fun h15 => ?_) (fun h15 => ?_)
              ·
               replace h15 : 0 ≤ ph := of_decide_eq_true h15
               refine rk [(6, .bool (decide (ph ≤ 2)))] 5 4 ⟨[(147, .bool (decide (ph ≤ 2))), (2, .f), (1, .p 0)], [(0, .cells (mr W xs ys [.i f0, .i f1, .i f2, .i t0, .i t1, .i t2, .i sz, .i lm, .sl false 8 (List.map thS ts), .i ph, .i sc, .i fl, .sl false 1 (List.map (SV.int .i64) os), .i brk]) 32)], 1⟩ [True, (decide (ph ≤ 2)) = (decide (ph ≤ 2)), True] ⟨trivial, rfl, trivial, trivial⟩ ?_
               refine splitr 147 (x := (decide (ph ≤ 2))) (by kernel_rfl) (fun h16 => ?_) (fun h16 => ?_)
               ·
                replace h16 : ph ≤ 2 := of_decide_eq_true h16
                refine rk [(11, .bool (decide (0 ≤ sc)))] 5 9 ⟨[(152, .bool (decide (0 ≤ sc))), (2, .f), (1, .p 0)], [(0, .cells (mr W xs ys [.i f0, .i f1, .i f2, .i t0, .i t1, .i t2, .i sz, .i lm, .sl false 8 (List.map thS ts), .i ph, .i sc, .i fl, .sl false 1 (List.map (SV.int .i64) os), .i brk]) 32)], 1⟩ [True, (decide (0 ≤ sc)) = (decide (0 ≤ sc)), True] ⟨trivial, rfl, trivial, trivial⟩ ?_
                refine splitr 152 (x := (decide (0 ≤ sc))) (by kernel_rfl) (fun h17 => ?_) (fun h17 => ?_)
                ·
                 replace h17 : 0 ≤ sc := of_decide_eq_true h17
                 refine rk [(19, .bool (decide (sc ≤ t1)))] 8 14 ⟨[(2, .bool (decide (sc ≤ t1)))], [], 1⟩ [True, True, (decide (sc ≤ t1)) = (decide (sc ≤ t1)), True] ⟨trivial, trivial, rfl, trivial, trivial⟩ ?_
                 refine en ?_
                 refine an ?_
                 refine xw_ret ?_
                 by_cases h18 : sc ≤ t1
                 ·
                  exact br (.bool (decide (sc ≤ t1))) (.t) (wkd [(decide (sc ≤ t1)) = true] (by kernel_rfl) ⟨(by first | rfl | omega | exact decide_eq_true (by omega) | exact decide_eq_false (by omega) | (simp; omega)), trivial⟩) (Or.inl <| ⟨(by omega), rfl⟩)
                 ·
                  exact br (.bool (decide (sc ≤ t1))) (.f) (wkd [(decide (sc ≤ t1)) = false] (by kernel_rfl) ⟨(by first | rfl | omega | exact decide_eq_true (by omega) | exact decide_eq_false (by omega) | (simp; omega)), trivial⟩) (Or.inr <| rfl)
                ·
                 replace h17 : ¬ (0 ≤ sc) := of_decide_eq_false h17
                 refine rk [] 8 14 ⟨[(2, .f)], [], 1⟩ [True] ⟨trivial, trivial⟩ ?_
                 refine en ?_
                 refine an ?_
                 refine xw_ret ?_
                 exact bs (.f) (Or.inr <| rfl)
               ·
                replace h16 : ¬ (ph ≤ 2) := of_decide_eq_false h16
                refine rk [] 13 9 ⟨[(2, .f)], [], 1⟩ [True, True] ⟨trivial, trivial, trivial⟩ ?_
                refine en ?_
                refine an ?_
                refine xw_ret ?_
                exact bs (.f) (Or.inr <| rfl)
              ·
               replace h15 : ¬ (0 ≤ ph) := of_decide_eq_false h15
               refine rk [] 18 4 ⟨[(2, .f)], [], 1⟩ [True, True, True] ⟨trivial, trivial, trivial, trivial⟩ ?_
               refine en ?_
               refine an ?_
               refine xw_ret ?_
               exact bs (.f) (Or.inr <| rfl)
   ·
    refine pc (rright_2 t0 t1 t2 ‹_› ‹_› ‹_› ‹_›) ?_
    refine rk [] 1 3 ⟨[(5, .f), (4, .t), (3, .t), (2, .f), (1, .p 0)], [(0, .cells (mr W xs ys [.i f0, .i f1, .i f2, .i t0, .i t1, .i t2, .i sz, .i lm, .sl false 8 (List.map thS ts), .i ph, .i sc, .i fl, .sl false 1 (List.map (SV.int .i64) os), .i brk]) 32)], 1⟩ [] trivial ?_
    refine en ?_
    refine an ?_
    refine xw_seq ?_
    refine rg [] 37 ⟨[(54, .t), (2, .f), (1, .p 0)], [(0, .cells (mr W xs ys [.i f0, .i f1, .i f2, .i t0, .i t1, .i t2, .i sz, .i lm, .sl false 8 (List.map thS ts), .i ph, .i sc, .i fl, .sl false 1 (List.map (SV.int .i64) os), .i brk]) 32)], 1⟩ [True, True, True, True, True] ⟨trivial, trivial, trivial, trivial, trivial, trivial⟩ ?_
    refine ct ?_
    refine rg [] 1 ⟨[(2, .f), (1, .p 0)], [(0, .cells (mr W xs ys [.i f0, .i f1, .i f2, .i t0, .i t1, .i t2, .i sz, .i lm, .sl false 8 (List.map thS ts), .i ph, .i sc, .i fl, .sl false 1 (List.map (SV.int .i64) os), .i brk]) 32)], 1⟩ [] trivial ?_
    refine xw_ret ?_
    refine an_ret ?_
    exact bs (.f) (Or.inr <| rfl)
  ·
   refine pc (rright_2 f0 f1 f2 ‹_› ‹_› ‹_› ‹_›) ?_
   refine rk [] 1 3 ⟨[(4, .f), (3, .t), (2, .f), (1, .p 0)], [(0, .cells (mr W xs ys [.i f0, .i f1, .i f2, .i t0, .i t1, .i t2, .i sz, .i lm, .sl false 8 (List.map thS ts), .i ph, .i sc, .i fl, .sl false 1 (List.map (SV.int .i64) os), .i brk]) 32)], 1⟩ [] trivial ?_
   refine en ?_
   refine an ?_
   refine xw_seq ?_
   refine reg ?_
   refine rk [] 2 0 ⟨[(16, .agg [.i t0, .i t1, .i t2]), (4, .f), (3, .t), (2, .f), (1, .p 0)], [(0, .cells (mr W xs ys [.i f0, .i f1, .i f2, .i t0, .i t1, .i t2, .i sz, .i lm, .sl false 8 (List.map thS ts), .i ph, .i sc, .i fl, .sl false 1 (List.map (SV.int .i64) os), .i brk]) 32)], 1⟩ [True] ⟨trivial, trivial⟩ ?_
   by_cases h2 : (t0 = 0 ∨ t0 = 1) ∧ 0 ≤ t2 ∧ t2 ≤ 4096 ∧ 0 ≤ t1 ∧ t1 ≤ t2
   ·
    refine pc (rright_1 t0 t1 t2 ‹_› ‹_› ‹_› ‹_›) ?_
    refine rk [] 1 3 ⟨[(5, .t), (4, .f), (3, .t), (2, .f), (1, .p 0)], [(0, .cells (mr W xs ys [.i f0, .i f1, .i f2, .i t0, .i t1, .i t2, .i sz, .i lm, .sl false 8 (List.map thS ts), .i ph, .i sc, .i fl, .sl false 1 (List.map (SV.int .i64) os), .i brk]) 32)], 1⟩ [] trivial ?_
    refine en ?_
    refine an ?_
    refine xw_seq ?_
    refine rg [] 37 ⟨[(54, .t), (2, .f), (1, .p 0)], [(0, .cells (mr W xs ys [.i f0, .i f1, .i f2, .i t0, .i t1, .i t2, .i sz, .i lm, .sl false 8 (List.map thS ts), .i ph, .i sc, .i fl, .sl false 1 (List.map (SV.int .i64) os), .i brk]) 32)], 1⟩ [True, True, True, True, True] ⟨trivial, trivial, trivial, trivial, trivial, trivial⟩ ?_
    refine ct ?_
    refine rg [] 1 ⟨[(2, .f), (1, .p 0)], [(0, .cells (mr W xs ys [.i f0, .i f1, .i f2, .i t0, .i t1, .i t2, .i sz, .i lm, .sl false 8 (List.map thS ts), .i ph, .i sc, .i fl, .sl false 1 (List.map (SV.int .i64) os), .i brk]) 32)], 1⟩ [] trivial ?_
    refine xw_ret ?_
    refine an_ret ?_
    exact bs (.f) (Or.inr <| rfl)
   ·
    refine pc (rright_2 t0 t1 t2 ‹_› ‹_› ‹_› ‹_›) ?_
    refine rk [] 1 3 ⟨[(5, .f), (4, .f), (3, .t), (2, .f), (1, .p 0)], [(0, .cells (mr W xs ys [.i f0, .i f1, .i f2, .i t0, .i t1, .i t2, .i sz, .i lm, .sl false 8 (List.map thS ts), .i ph, .i sc, .i fl, .sl false 1 (List.map (SV.int .i64) os), .i brk]) 32)], 1⟩ [] trivial ?_
    refine en ?_
    refine an ?_
    refine xw_seq ?_
    refine rg [] 37 ⟨[(54, .t), (2, .f), (1, .p 0)], [(0, .cells (mr W xs ys [.i f0, .i f1, .i f2, .i t0, .i t1, .i t2, .i sz, .i lm, .sl false 8 (List.map thS ts), .i ph, .i sc, .i fl, .sl false 1 (List.map (SV.int .i64) os), .i brk]) 32)], 1⟩ [True, True, True, True, True] ⟨trivial, trivial, trivial, trivial, trivial, trivial⟩ ?_
    refine ct ?_
    refine rg [] 1 ⟨[(2, .f), (1, .p 0)], [(0, .cells (mr W xs ys [.i f0, .i f1, .i f2, .i t0, .i t1, .i t2, .i sz, .i lm, .sl false 8 (List.map thS ts), .i ph, .i sc, .i fl, .sl false 1 (List.map (SV.int .i64) os), .i brk]) 32)], 1⟩ [] trivial ?_
    refine xw_ret ?_
    refine an_ret ?_
    exact bs (.f) (Or.inr <| rfl)
 ·
  refine pc (rmright_2 W xs ys ‹_› ‹_›) ?_
  refine rk [] 1 3 ⟨[(3, .f), (2, .f), (1, .p 0)], [(0, .cells (mr W xs ys [.i f0, .i f1, .i f2, .i t0, .i t1, .i t2, .i sz, .i lm, .sl false 8 (List.map thS ts), .i ph, .i sc, .i fl, .sl false 1 (List.map (SV.int .i64) os), .i brk]) 32)], 1⟩ [] trivial ?_
  refine en ?_
  refine an ?_
  refine xw_seq ?_
  refine reg ?_
  refine rk [] 2 0 ⟨[(13, .agg [.i f0, .i f1, .i f2]), (3, .f), (2, .f), (1, .p 0)], [(0, .cells (mr W xs ys [.i f0, .i f1, .i f2, .i t0, .i t1, .i t2, .i sz, .i lm, .sl false 8 (List.map thS ts), .i ph, .i sc, .i fl, .sl false 1 (List.map (SV.int .i64) os), .i brk]) 32)], 1⟩ [True] ⟨trivial, trivial⟩ ?_
  by_cases h1 : (f0 = 0 ∨ f0 = 1) ∧ 0 ≤ f2 ∧ f2 ≤ 4096 ∧ 0 ≤ f1 ∧ f1 ≤ f2
  ·
   refine pc (rright_1 f0 f1 f2 ‹_› ‹_› ‹_› ‹_›) ?_
   refine rk [] 1 3 ⟨[(4, .t), (3, .f), (2, .f), (1, .p 0)], [(0, .cells (mr W xs ys [.i f0, .i f1, .i f2, .i t0, .i t1, .i t2, .i sz, .i lm, .sl false 8 (List.map thS ts), .i ph, .i sc, .i fl, .sl false 1 (List.map (SV.int .i64) os), .i brk]) 32)], 1⟩ [] trivial ?_
   refine en ?_
   refine an ?_
   refine xw_seq ?_
   refine reg ?_
   refine rk [] 2 0 ⟨[(16, .agg [.i t0, .i t1, .i t2]), (4, .t), (3, .f), (2, .f), (1, .p 0)], [(0, .cells (mr W xs ys [.i f0, .i f1, .i f2, .i t0, .i t1, .i t2, .i sz, .i lm, .sl false 8 (List.map thS ts), .i ph, .i sc, .i fl, .sl false 1 (List.map (SV.int .i64) os), .i brk]) 32)], 1⟩ [True] ⟨trivial, trivial⟩ ?_
   by_cases h2 : (t0 = 0 ∨ t0 = 1) ∧ 0 ≤ t2 ∧ t2 ≤ 4096 ∧ 0 ≤ t1 ∧ t1 ≤ t2
   ·
    refine pc (rright_1 t0 t1 t2 ‹_› ‹_› ‹_› ‹_›) ?_
    refine rk [] 1 3 ⟨[(5, .t), (4, .t), (3, .f), (2, .f), (1, .p 0)], [(0, .cells (mr W xs ys [.i f0, .i f1, .i f2, .i t0, .i t1, .i t2, .i sz, .i lm, .sl false 8 (List.map thS ts), .i ph, .i sc, .i fl, .sl false 1 (List.map (SV.int .i64) os), .i brk]) 32)], 1⟩ [] trivial ?_
    refine en ?_
    refine an ?_
    refine xw_seq ?_
    refine rg [] 37 ⟨[(54, .t), (2, .f), (1, .p 0)], [(0, .cells (mr W xs ys [.i f0, .i f1, .i f2, .i t0, .i t1, .i t2, .i sz, .i lm, .sl false 8 (List.map thS ts), .i ph, .i sc, .i fl, .sl false 1 (List.map (SV.int .i64) os), .i brk]) 32)], 1⟩ [True, True, True, True, True] ⟨trivial, trivial, trivial, trivial, trivial, trivial⟩ ?_
    refine ct ?_
    refine rg [] 1 ⟨[(2, .f), (1, .p 0)], [(0, .cells (mr W xs ys [.i f0, .i f1, .i f2, .i t0, .i t1, .i t2, .i sz, .i lm, .sl false 8 (List.map thS ts), .i ph, .i sc, .i fl, .sl false 1 (List.map (SV.int .i64) os), .i brk]) 32)], 1⟩ [] trivial ?_
    refine xw_ret ?_
    refine an_ret ?_
    exact bs (.f) (Or.inr <| rfl)
   ·
    refine pc (rright_2 t0 t1 t2 ‹_› ‹_› ‹_› ‹_›) ?_
    refine rk [] 1 3 ⟨[(5, .f), (4, .t), (3, .f), (2, .f), (1, .p 0)], [(0, .cells (mr W xs ys [.i f0, .i f1, .i f2, .i t0, .i t1, .i t2, .i sz, .i lm, .sl false 8 (List.map thS ts), .i ph, .i sc, .i fl, .sl false 1 (List.map (SV.int .i64) os), .i brk]) 32)], 1⟩ [] trivial ?_
    refine en ?_
    refine an ?_
    refine xw_seq ?_
    refine rg [] 37 ⟨[(54, .t), (2, .f), (1, .p 0)], [(0, .cells (mr W xs ys [.i f0, .i f1, .i f2, .i t0, .i t1, .i t2, .i sz, .i lm, .sl false 8 (List.map thS ts), .i ph, .i sc, .i fl, .sl false 1 (List.map (SV.int .i64) os), .i brk]) 32)], 1⟩ [True, True, True, True, True] ⟨trivial, trivial, trivial, trivial, trivial, trivial⟩ ?_
    refine ct ?_
    refine rg [] 1 ⟨[(2, .f), (1, .p 0)], [(0, .cells (mr W xs ys [.i f0, .i f1, .i f2, .i t0, .i t1, .i t2, .i sz, .i lm, .sl false 8 (List.map thS ts), .i ph, .i sc, .i fl, .sl false 1 (List.map (SV.int .i64) os), .i brk]) 32)], 1⟩ [] trivial ?_
    refine xw_ret ?_
    refine an_ret ?_
    exact bs (.f) (Or.inr <| rfl)
  ·
   refine pc (rright_2 f0 f1 f2 ‹_› ‹_› ‹_› ‹_›) ?_
   refine rk [] 1 3 ⟨[(4, .f), (3, .f), (2, .f), (1, .p 0)], [(0, .cells (mr W xs ys [.i f0, .i f1, .i f2, .i t0, .i t1, .i t2, .i sz, .i lm, .sl false 8 (List.map thS ts), .i ph, .i sc, .i fl, .sl false 1 (List.map (SV.int .i64) os), .i brk]) 32)], 1⟩ [] trivial ?_
   refine en ?_
   refine an ?_
   refine xw_seq ?_
   refine reg ?_
   refine rk [] 2 0 ⟨[(16, .agg [.i t0, .i t1, .i t2]), (4, .f), (3, .f), (2, .f), (1, .p 0)], [(0, .cells (mr W xs ys [.i f0, .i f1, .i f2, .i t0, .i t1, .i t2, .i sz, .i lm, .sl false 8 (List.map thS ts), .i ph, .i sc, .i fl, .sl false 1 (List.map (SV.int .i64) os), .i brk]) 32)], 1⟩ [True] ⟨trivial, trivial⟩ ?_
   by_cases h2 : (t0 = 0 ∨ t0 = 1) ∧ 0 ≤ t2 ∧ t2 ≤ 4096 ∧ 0 ≤ t1 ∧ t1 ≤ t2
   ·
    refine pc (rright_1 t0 t1 t2 ‹_› ‹_› ‹_› ‹_›) ?_
    refine rk [] 1 3 ⟨[(5, .t), (4, .f), (3, .f), (2, .f), (1, .p 0)], [(0, .cells (mr W xs ys [.i f0, .i f1, .i f2, .i t0, .i t1, .i t2, .i sz, .i lm, .sl false 8 (List.map thS ts), .i ph, .i sc, .i fl, .sl false 1 (List.map (SV.int .i64) os), .i brk]) 32)], 1⟩ [] trivial ?_
    refine en ?_
    refine an ?_
    refine xw_seq ?_
    refine rg [] 37 ⟨[(54, .t), (2, .f), (1, .p 0)], [(0, .cells (mr W xs ys [.i f0, .i f1, .i f2, .i t0, .i t1, .i t2, .i sz, .i lm, .sl false 8 (List.map thS ts), .i ph, .i sc, .i fl, .sl false 1 (List.map (SV.int .i64) os), .i brk]) 32)], 1⟩ [True, True, True, True, True] ⟨trivial, trivial, trivial, trivial, trivial, trivial⟩ ?_
    refine ct ?_
    refine rg [] 1 ⟨[(2, .f), (1, .p 0)], [(0, .cells (mr W xs ys [.i f0, .i f1, .i f2, .i t0, .i t1, .i t2, .i sz, .i lm, .sl false 8 (List.map thS ts), .i ph, .i sc, .i fl, .sl false 1 (List.map (SV.int .i64) os), .i brk]) 32)], 1⟩ [] trivial ?_
    refine xw_ret ?_
    refine an_ret ?_
    exact bs (.f) (Or.inr <| rfl)
   ·
    refine pc (rright_2 t0 t1 t2 ‹_› ‹_› ‹_› ‹_›) ?_
    refine rk [] 1 3 ⟨[(5, .f), (4, .f), (3, .f), (2, .f), (1, .p 0)], [(0, .cells (mr W xs ys [.i f0, .i f1, .i f2, .i t0, .i t1, .i t2, .i sz, .i lm, .sl false 8 (List.map thS ts), .i ph, .i sc, .i fl, .sl false 1 (List.map (SV.int .i64) os), .i brk]) 32)], 1⟩ [] trivial ?_
    refine en ?_
    refine an ?_
    refine xw_seq ?_
    refine rg [] 37 ⟨[(54, .t), (2, .f), (1, .p 0)], [(0, .cells (mr W xs ys [.i f0, .i f1, .i f2, .i t0, .i t1, .i t2, .i sz, .i lm, .sl false 8 (List.map thS ts), .i ph, .i sc, .i fl, .sl false 1 (List.map (SV.int .i64) os), .i brk]) 32)], 1⟩ [True, True, True, True, True] ⟨trivial, trivial, trivial, trivial, trivial, trivial⟩ ?_
    refine ct ?_
    refine rg [] 1 ⟨[(2, .f), (1, .p 0)], [(0, .cells (mr W xs ys [.i f0, .i f1, .i f2, .i t0, .i t1, .i t2, .i sz, .i lm, .sl false 8 (List.map thS ts), .i ph, .i sc, .i fl, .sl false 1 (List.map (SV.int .i64) os), .i brk]) 32)], 1⟩ [] trivial ?_
    refine xw_ret ?_
    refine an_ret ?_
    exact bs (.f) (Or.inr <| rfl)

theorem few17 (W : Int) (xs ys : List Int) (f0 f1 f2 t0 t1 t2 sz lm : Int) (ts : List Th) (ph sc fl : Int) (os : List Int) (brk : Int) (hp0 : -9223372036854775808 ≤ W ∧ W ≤ 9223372036854775807) (hp1 : U64s xs) (hp2 : U64s ys) (hp3 : -9223372036854775808 ≤ f0 ∧ f0 ≤ 9223372036854775807) (hp4 : -9223372036854775808 ≤ f1 ∧ f1 ≤ 9223372036854775807) (hp5 : -9223372036854775808 ≤ f2 ∧ f2 ≤ 9223372036854775807) (hp6 : -9223372036854775808 ≤ t0 ∧ t0 ≤ 9223372036854775807) (hp7 : -9223372036854775808 ≤ t1 ∧ t1 ≤ 9223372036854775807) (hp8 : -9223372036854775808 ≤ t2 ∧ t2 ≤ 9223372036854775807) (hp9 : -9223372036854775808 ≤ sz ∧ sz ≤ 9223372036854775807) (hp10 : -9223372036854775808 ≤ lm ∧ lm ≤ 9223372036854775807) (hp11 : Ths ts) (hp12 : (ts.length : Int) * 144 ≤ 140737488355000) (hp13 : -9223372036854775808 ≤ ph ∧ ph ≤ 9223372036854775807) (hp14 : -9223372036854775808 ≤ sc ∧ sc ≤ 9223372036854775807) (hp15 : -9223372036854775808 ≤ fl ∧ fl ≤ 9223372036854775807) (hp16 : I64s os) (hp17 : (os.length : Int) * 8 ≤ 140737488355000) (hp18 : -9223372036854775808 ≤ brk ∧ brk ≤ 9223372036854775807) : Pub Try.prog 9 [.agg (mr W xs ys [.i f0, .i f1, .i f2, .i t0, .i t1, .i t2, .i sz, .i lm, .sl false 8 (List.map thS ts), .i ph, .i sc, .i fl, .sl false 1 (List.map (SV.int .i64) os), .i brk])] (fun rv => ((16 ≤ W ∧ W ≤ 4096 ∧ (xs.length : Int) = W ∧ (ys.length : Int) = W ∧ 1 ≤ (ts.length : Int) ∧ (ts.length : Int) ≤ 4 ∧ W ≤ 200) ∧ rv = .t) ∨ (rv = .f)) := by
 refine pub_of TT_ok Try.func9 rfl (by decide) (Nat.le_of_ble_eq_true (by kernel_rfl)) (by kernel_rfl) ?_
 refine rg [] 2 ⟨[(2, .f), (1, .p 0)], [(0, .cells (mr W xs ys [.i f0, .i f1, .i f2, .i t0, .i t1, .i t2, .i sz, .i lm, .sl false 8 (List.map thS ts), .i ph, .i sc, .i fl, .sl false 1 (List.map (SV.int .i64) os), .i brk]) 32)], 1⟩ [] trivial ?_
 refine xw_seq ?_
 refine reg ?_
 refine rk [] 1 0 ⟨[(4, .agg (mr W xs ys [.i f0, .i f1, .i f2, .i t0, .i t1, .i t2, .i sz, .i lm, .sl false 8 (List.map thS ts), .i ph, .i sc, .i fl, .sl false 1 (List.map (SV.int .i64) os), .i brk])), (2, .f), (1, .p 0)], [(0, .cells (mr W xs ys [.i f0, .i f1, .i f2, .i t0, .i t1, .i t2, .i sz, .i lm, .sl false 8 (List.map thS ts), .i ph, .i sc, .i fl, .sl false 1 (List.map (SV.int .i64) os), .i brk]) 32)], 1⟩ [True] ⟨trivial, trivial⟩ ?_
 refine pcall (args := [.agg (mr W xs ys [.i f0, .i f1, .i f2, .i t0, .i t1, .i t2, .i sz, .i lm, .sl false 8 (List.map thS ts), .i ph, .i sc, .i fl, .sl false 1 (List.map (SV.int .i64) os), .i brk])]) (args' := [.agg (mr W xs ys [.i f0, .i f1, .i f2, .i t0, .i t1, .i t2, .i sz, .i lm, .sl false 8 (List.map thS ts), .i ph, .i sc, .i fl, .sl false 1 (List.map (SV.int .i64) os), .i brk])]) (d := (some 5)) (by kernel_rfl) (hright W xs ys f0 f1 f2 t0 t1 t2 sz lm ts ph sc fl os brk ‹_› ‹_› ‹_› ‹_› ‹_› ‹_› ‹_› ‹_› ‹_› ‹_› ‹_› ‹_› (by omega) ‹_› ‹_› ‹_› ‹_› (by omega) ‹_›) [(W : Int) = W, (false = true → false = true), ((m64 xs) : List SV) = (m64 xs), (false = true → false = true), ((m64 ys) : List SV) = (m64 ys), (f0 : Int) = f0, (f1 : Int) = f1, (f2 : Int) = f2, (t0 : Int) = t0, (t1 : Int) = t1, (t2 : Int) = t2, (sz : Int) = sz, (lm : Int) = lm, (false = true → false = true), ((List.map thS ts) : List SV) = (List.map thS ts), (ph : Int) = ph, (sc : Int) = sc, (fl : Int) = fl, (false = true → false = true), ((List.map (SV.int .i64) os) : List SV) = (List.map (SV.int .i64) os), (brk : Int) = brk] (by kernel_rfl) ⟨rfl, id, rfl, id, rfl, rfl, rfl, rfl, rfl, rfl, rfl, rfl, rfl, id, rfl, rfl, rfl, rfl, id, rfl, rfl, trivial⟩ (by kernel_rfl) ?_
 rintro _ (⟨h0, rfl⟩ | rfl)
 ·
  refine rk [] 1 2 ⟨[(3, .t), (2, .f), (1, .p 0)], [(0, .cells (mr W xs ys [.i f0, .i f1, .i f2, .i t0, .i t1, .i t2, .i sz, .i lm, .sl false 8 (List.map thS ts), .i ph, .i sc, .i fl, .sl false 1 (List.map (SV.int .i64) os), .i brk]) 32)], 1⟩ [] trivial ?_
  refine en ?_
  refine an ?_
  refine rg [(5, .bool (decide (W ≤ 200)))] 8 ⟨[(2, .bool (decide (W ≤ 200)))], [], 1⟩ [True, (decide (W ≤ 200)) = (decide (W ≤ 200)), True] ⟨trivial, rfl, trivial, trivial⟩ ?_
  refine xw_ret ?_
  by_cases h1 : W ≤ 200
  ·
   exact br (.bool (decide (W ≤ 200))) (.t) (wkd [(decide (W ≤ 200)) = true] (by kernel_rfl) ⟨(by first | rfl | omega | exact decide_eq_true (by omega) | exact decide_eq_false (by omega) | (simp; omega)), trivial⟩) (Or.inl <| ⟨(by omega), rfl⟩)
  ·
   exact br (.bool (decide (W ≤ 200))) (.f) (wkd [(decide (W ≤ 200)) = false] (by kernel_rfl) ⟨(by first | rfl | omega | exact decide_eq_true (by omega) | exact decide_eq_false (by omega) | (simp; omega)), trivial⟩) (Or.inr <| rfl)
 ·
  refine rk [] 1 2 ⟨[(3, .f), (2, .f), (1, .p 0)], [(0, .cells (mr W xs ys [.i f0, .i f1, .i f2, .i t0, .i t1, .i t2, .i sz, .i lm, .sl false 8 (List.map thS ts), .i ph, .i sc, .i fl, .sl false 1 (List.map (SV.int .i64) os), .i brk]) 32)], 1⟩ [] trivial ?_
  refine en ?_
  refine an ?_
  refine rg [] 8 ⟨[(2, .f)], [], 1⟩ [True] ⟨trivial, trivial⟩ ?_
  refine xw_ret ?_
  exact bs (.f) (Or.inr <| rfl)

end Go.Proofs.Ytjchmajamlehmaa.X
