/- Contracts of Go functions: what each returns, for every input that its premises name; no memory of the caller is touched. Printed by a program. -/
import Derived.Test.YtjchmajamlehmaaXp1
namespace Go.Proofs.Ytjchmajamlehmaa.X
open Go Go.RowKit
set_option linter.unusedVariables false      -- a premise may serve only to tell which way is taken
set_option linter.unusedSimpArgs false
set_option maxHeartbeats 8000000 in
theorem actStays (W : Int) (xs ys : List Int) (f0 f1 f2 t0 t1 t2 sz lm : Int) (ts : List Th) (ph scn fl : Int) (os : List Int) (brk th oth : Int) (hp0 : -9223372036854775808 ≤ W ∧ W ≤ 9223372036854775807) (hp1 : U64s xs) (hp2 : U64s ys) (hp3 : -9223372036854775808 ≤ f0 ∧ f0 ≤ 9223372036854775807) (hp4 : -9223372036854775808 ≤ f1 ∧ f1 ≤ 9223372036854775807) (hp5 : -9223372036854775808 ≤ f2 ∧ f2 ≤ 9223372036854775807) (hp6 : -9223372036854775808 ≤ t0 ∧ t0 ≤ 9223372036854775807) (hp7 : -9223372036854775808 ≤ t1 ∧ t1 ≤ 9223372036854775807) (hp8 : -9223372036854775808 ≤ t2 ∧ t2 ≤ 9223372036854775807) (hp9 : -9223372036854775808 ≤ sz ∧ sz ≤ 9223372036854775807) (hp10 : -9223372036854775808 ≤ lm ∧ lm ≤ 9223372036854775807) (hp11 : Ths ts) (hp12 : (ts.length : Int) * 144 ≤ 140737488355000) (hp13 : -9223372036854775808 ≤ ph ∧ ph ≤ 9223372036854775807) (hp14 : -9223372036854775808 ≤ scn ∧ scn ≤ 9223372036854775807) (hp15 : -9223372036854775808 ≤ fl ∧ fl ≤ 9223372036854775807) (hp16 : I64s os) (hp17 : (os.length : Int) * 8 ≤ 140737488355000) (hp18 : -9223372036854775808 ≤ brk ∧ brk ≤ 9223372036854775807) (hp19 : -9223372036854775808 ≤ th ∧ th ≤ 9223372036854775807) (hp20 : -9223372036854775808 ≤ oth ∧ oth ≤ 9223372036854775807) (hp21 : Thg ts) (hp22 : (xs.length : Int) * 8 ≤ 140737488355000) (hp23 : (ys.length : Int) * 8 ≤ 140737488355000) (hp24 : (os.length : Int) * 8 ≤ 140737488351232) : Pub Try.prog 3 [.agg (hp W xs ys f0 f1 f2 t0 t1 t2 sz lm ts ph scn fl os brk), .i th, .i oth] (fun rv => rv = .t) := by
 refine pub_of TT_ok Try.func3 rfl (by decide) (Nat.le_of_ble_eq_true (by kernel_rfl)) (by kernel_rfl) ?_
 refine rgi [] 2 [6, 3, 1, 2] [0] [] trivial ?_
 refine xw_seq ?_
 refine reg ?_
 refine pc (shown17 ) ?_
 refine rki [] 1 1 [7, 6, 3, 1, 2] [0] [] trivial ?_
 refine en ?_
 refine an ?_
 refine xw_seq ?_
 refine reg ?_
 refine rki [] 1 0 [15, 7, 6, 3, 1, 2] [0] [True] ⟨trivial, trivial⟩ ?_
 by_cases h0 : (RGT W xs ys f0 f1 f2 t0 t1 t2 sz lm ts ph scn) ∧ (W ≤ 200)
 ·
  obtain ⟨h1, h2⟩ := h0
  refine pc (fewB_1 W xs ys f0 f1 f2 t0 t1 t2 sz lm ts ph scn fl os brk ‹_› ‹_› ‹_› ‹_› ‹_› ‹_› ‹_› ‹_› ‹_› ‹_› ‹_› ‹_› (by omega) ‹_› ‹_› ‹_› ‹_› (by omega) ‹_› ‹_› ‹_›) ?_
  have h3 : 16 ≤ W ∧ W ≤ 4096 ∧ (xs.length : Int) = W ∧ (ys.length : Int) = W := ‹RGT W xs ys f0 f1 f2 t0 t1 t2 sz lm ts ph scn›.1
  have h4 : 0 ≤ f0 ∧ f0 ≤ 1 ∧ 0 ≤ f1 ∧ f1 ≤ f2 ∧ f2 = W := ‹RGT W xs ys f0 f1 f2 t0 t1 t2 sz lm ts ph scn›.2.1
  have h5 : 0 ≤ t0 ∧ t0 ≤ 1 ∧ 0 ≤ t1 ∧ t1 ≤ t2 ∧ t2 = W ∧ f0 ≠ t0 := ‹RGT W xs ys f0 f1 f2 t0 t1 t2 sz lm ts ph scn›.2.2.1
  have h6 : 0 ≤ sz ∧ sz ≤ 4096 ∧ 1 ≤ lm ∧ lm ≤ 64 := ‹RGT W xs ys f0 f1 f2 t0 t1 t2 sz lm ts ph scn›.2.2.2.1
  have h7 : Bfs ts f1 := ‹RGT W xs ys f0 f1 f2 t0 t1 t2 sz lm ts ph scn›.2.2.2.2.2.2
  refine rk [] 1 2 ⟨[(8, .t), (7, .t), (6, .f), (3, .p 0), (1, .i th), (2, .i oth)], [(0, .cells (hp W xs ys f0 f1 f2 t0 t1 t2 sz lm ts ph scn fl os brk) 32)], 1⟩ [] trivial ?_
  refine en ?_
  refine an ?_
  refine xw_seq ?_
  refine rgi [] 2 [18, 7, 6, 3, 1, 2] [0] [] trivial ?_
  refine cf ?_
  refine xw_skip ?_
  refine an ?_
  refine xw_seq ?_
  refine reg ?_
  refine rki [] 2 0 [21, 20, 7, 6, 3, 1, 2] [0] [True] ⟨trivial, trivial⟩ ?_
  refine pcall (args := [.agg (hp W xs ys f0 f1 f2 t0 t1 t2 sz lm ts ph scn fl os brk), .i th]) (args' := [.agg (hp W xs ys f0 f1 f2 t0 t1 t2 sz lm ts ph scn fl os brk), .i th]) (d := (some 22)) (by kernel_rfl) (ado W xs ys f0 f1 f2 t0 t1 t2 sz lm ts ph scn fl os brk th ‹_› ‹_› ‹_› ‹_› ‹_› ‹_› ‹_› ‹_› ‹_› ‹_› ‹_› ‹_› (by omega) ‹_› ‹_› ‹_› ‹_› (by omega) ‹_› ‹_› ‹_› ‹_› (by omega) ‹_›) [(W : Int) = W, (false = true → false = true), ((m64 xs) : List SV) = (m64 xs), (false = true → false = true), ((m64 ys) : List SV) = (m64 ys), (f0 : Int) = f0, (f1 : Int) = f1, (f2 : Int) = f2, (t0 : Int) = t0, (t1 : Int) = t1, (t2 : Int) = t2, (sz : Int) = sz, (lm : Int) = lm, (false = true → false = true), ((List.map thS ts) : List SV) = (List.map thS ts), (ph : Int) = ph, (scn : Int) = scn, (fl : Int) = fl, (false = true → false = true), ((List.map (SV.int .i64) os) : List SV) = (List.map (SV.int .i64) os), (brk : Int) = brk, (th : Int) = th] (by kernel_rfl) ⟨rfl, id, rfl, id, rfl, rfl, rfl, rfl, rfl, rfl, rfl, rfl, rfl, id, rfl, rfl, rfl, rfl, id, rfl, rfl, rfl, trivial⟩ (by kernel_rfl) ?_
  rintro _ (⟨h8, rfl⟩ | ⟨h8, h9, rfl⟩ | ⟨X18, Y19, F110, st111, p112, q113, pd114, e115, v116, yes117, wt118, h19, h20, h21, h22, rfl⟩ | ⟨X18, Y19, F110, st111, p112, q113, pd114, e115, v116, yes117, wt118, h19, h20, h21, h22, rfl⟩)
  ·
   refine rki [] 2 3 [9, 7, 6, 3, 1, 2] [1, 0] [True] ⟨trivial, trivial⟩ ?_
   refine en ?_
   refine an ?_
   refine xw_seq ?_
   refine reg ?_
   refine rk [] 1 0 ⟨[(23, .agg (hp W xs ys f0 f1 f2 t0 t1 t2 sz lm ts ph scn fl os brk)), (9, .p 1), (7, .t), (6, .f), (3, .p 0), (1, .i th), (2, .i oth)], [(1, .cells (hp W xs ys f0 f1 f2 t0 t1 t2 sz lm ts ph scn fl os brk) 32), (0, .cells (hp W xs ys f0 f1 f2 t0 t1 t2 sz lm ts ph scn fl os brk) 32)], 2⟩ [True] ⟨trivial, trivial⟩ ?_
   refine pc (hrightB_1 W xs ys f0 f1 f2 t0 t1 t2 sz lm ts ph scn fl os brk ‹_› ‹_› ‹_› ‹_› ‹_› ‹_› ‹_› ‹_› ‹_› ‹_› ‹_› ‹_› (by omega) ‹_› ‹_› ‹_› ‹_› (by omega) ‹_› ‹_›) ?_
   refine rki [] 1 2 [10, 9, 7, 6, 3, 1, 2] [1, 0] [] trivial ?_
   refine en ?_
   refine an ?_
   refine xw_seq ?_
   refine rgi [(5, .i ((ts).length : Int)), (8, .i ((ts).length : Int)), (9, .f)] 11 [35, 9, 7, 6, 3, 1, 2] [1, 0] [True, ((((List.map thS ts)).length : Nat) : Int) = ((ts).length : Int), True, ((((List.map thS ts)).length : Nat) : Int) = ((ts).length : Int), (((ts).length : Int) != ((ts).length : Int)) = false, True] ⟨trivial, (by simp), trivial, (by simp), bne_eq_false_iff_eq.2 (by omega), trivial, trivial⟩ ?_
   refine cf ?_
   refine xw_skip ?_
   refine an ?_
   refine xw_seq ?_
   refine xw_seq ?_
   refine reg ?_
   refine rki [] 2 0 [37, 36, 9, 7, 6, 3, 1, 2] [1, 0] [True] ⟨trivial, trivial⟩ ?_
   refine pc (acan_1 W xs ys f0 f1 f2 t0 t1 t2 sz lm ts ph scn fl os brk th ‹_› ‹_› ‹_› ‹_› ‹_› ‹_› ‹_› ‹_› ‹_› ‹_› ‹_› ‹_› (by omega) ‹_› ‹_› ‹_› ‹_› (by omega) ‹_› ‹_› ‹_›) ?_
   refine rk [] 1 3 ⟨[(39, .t), (9, .p 1), (7, .t), (6, .f), (3, .p 0), (1, .i th), (2, .i oth)], [(1, .cells (hp W xs ys f0 f1 f2 t0 t1 t2 sz lm ts ph scn fl os brk) 32), (0, .cells (hp W xs ys f0 f1 f2 t0 t1 t2 sz lm ts ph scn fl os brk) 32)], 2⟩ [] trivial ?_
   refine en ?_
   refine an ?_
   refine ct ?_
   refine xw_seq ?_
   refine reg ?_
   refine rki [] 4 0 [43, 42, 41, 9, 7, 6, 3, 1, 2] [1, 0] [True, True] ⟨trivial, trivial, trivial⟩ ?_
   refine pc (eqheap2 W xs ys f0 f1 f2 t0 t1 t2 sz lm ts ph scn fl os brk ts (by first | omega | exact th_l1 | exact ths_one (Ths.at (by assumption) _) | exact eqt_one (by omega) (by omega) (by omega) | assumption | exact rfl) ‹_› ‹_› ‹_› ‹_› ‹_› ‹_› ‹_› ‹_› ‹_› ‹_› ‹_› ‹_› (by omega) ‹_› ‹_› ‹_› ‹_› (by omega) ‹_› (by omega) (by omega)) ?_
   refine rki [] 2 5 [6, 9, 7, 3, 1, 2] [1, 0] [True] ⟨trivial, trivial⟩ ?_
   refine en ?_
   refine an ?_
   refine xw_ret ?_
   refine an_ret ?_
   exact bs (.t) rfl
  ·
   have h10 : 0 ≤ th ∧ th < (ts.length : Int) := (can_is ‹_›).1
   have h11 : brk = 0 := (can_is ‹_›).2.1
   have h12 : 0 < ((Th.pd (thA ts th)).length : Int) ∨ (((Th.pd (thA ts th)).length : Int) = 0 ∧ 0 < ((Th.lf (thA ts th)).length : Int) ∧ ph ≠ 2) := can_nx ‹_›
   have h13 : Ths (tP ts th) := (ths_set ‹_› (th_pend (Ths.at ‹_› th) (thg_lg ‹_› th)))
   have h14 : ((tP ts th).length : Int) = (ts.length : Int) := len_set
   have h15 : ((Th.dn (thA (tP ts th) th)).length : Int) = ((Th.dn (thA ts th)).length : Int) := (by rw [th_set (by omega) (by omega)]; try first | assumption | (simp; done) | (simp; omega))
   have h16 : ((Th.lf (thA (tP ts th) th)).length : Int) = ((Th.lf (thA ts th)).length : Int) := (by rw [th_set (by omega) (by omega)]; try first | assumption | (simp; done) | (simp; omega))
   have h17 : ((Th.lg (thA (tP ts th) th)).length : Int) = ((Th.lg (thA ts th)).length : Int) + 1 := (by rw [th_set (by omega) (by omega)]; try first | assumption | (simp; done) | (simp; omega))
   have h18 : ((Th.pd (thA (tP ts th) th)).length : Int) = 0 := (by rw [th_set (by omega) (by omega)]; try first | assumption | (simp; done) | (simp; omega))
   have h19 : ((Th.b0 (thA ts th)) = 0 ∧ (Th.b1 (thA ts th)) = 0) ∨ (0 ≤ (Th.b0 (thA ts th)) ∧ (Th.b0 (thA ts th)) ≤ (Th.b1 (thA ts th)) ∧ (Th.b1 (thA ts th)) ≤ f1) := (Bfs.at ‹Bfs ts f1› (by omega) _).1
   have h20 : RGT W xs ys f0 f1 f2 t0 t1 t2 sz lm (tP ts th) ph scn := rgt_do ‹RGT W xs ys f0 f1 f2 t0 t1 t2 sz lm ts ph scn› (by omega) (by omega) (by omega) (by omega) (by simp)
   refine rki [] 2 3 [9, 7, 6, 3, 1, 2] [1, 0] [True] ⟨trivial, trivial⟩ ?_
   refine en ?_
   refine an ?_
   refine xw_seq ?_
   refine reg ?_
   refine rk [] 1 0 ⟨[(23, .agg (hp W xs ys f0 f1 f2 t0 t1 t2 sz lm (tP ts th) ph scn fl os brk)), (9, .p 1), (7, .t), (6, .f), (3, .p 0), (1, .i th), (2, .i oth)], [(1, .cells (hp W xs ys f0 f1 f2 t0 t1 t2 sz lm (tP ts th) ph scn fl os brk) 32), (0, .cells (hp W xs ys f0 f1 f2 t0 t1 t2 sz lm ts ph scn fl os brk) 32)], 2⟩ [True] ⟨trivial, trivial⟩ ?_
   refine pcall1 (args := [.agg (hp W xs ys f0 f1 f2 t0 t1 t2 sz lm (tP ts th) ph scn fl os brk)]) (args' := [.agg (hp W xs ys f0 f1 f2 t0 t1 t2 sz lm (tP ts th) ph scn fl os brk)]) (d := (some 24)) (sv := .t) (by kernel_rfl) (hrightB_1 W xs ys f0 f1 f2 t0 t1 t2 sz lm (tP ts th) ph scn fl os brk ‹_› ‹_› ‹_› ‹_› ‹_› ‹_› ‹_› ‹_› ‹_› ‹_› ‹_› ‹_› (by omega) ‹_› ‹_› ‹_› ‹_› (by omega) ‹_› ‹_›) [(W : Int) = W, (false = true → false = true), ((m64 xs) : List SV) = (m64 xs), (false = true → false = true), ((m64 ys) : List SV) = (m64 ys), (f0 : Int) = f0, (f1 : Int) = f1, (f2 : Int) = f2, (t0 : Int) = t0, (t1 : Int) = t1, (t2 : Int) = t2, (sz : Int) = sz, (lm : Int) = lm, (false = true → false = true), ((List.map thS (tP ts th)) : List SV) = (List.map thS (tP ts th)), (ph : Int) = ph, (scn : Int) = scn, (fl : Int) = fl, (false = true → false = true), ((List.map (SV.int .i64) os) : List SV) = (List.map (SV.int .i64) os), (brk : Int) = brk] (by kernel_rfl) ⟨rfl, id, rfl, id, rfl, rfl, rfl, rfl, rfl, rfl, rfl, rfl, rfl, id, rfl, rfl, rfl, rfl, id, rfl, rfl, trivial⟩ (by kernel_rfl) ?_
   refine rki [] 1 2 [10, 9, 7, 6, 3, 1, 2] [1, 0] [] trivial ?_
   refine en ?_
   refine an ?_
   refine xw_seq ?_
   refine rgi [(5, .i (((tP ts th)).length : Int)), (8, .i ((ts).length : Int)), (9, .f)] 11 [35, 9, 7, 6, 3, 1, 2] [1, 0] [True, ((((List.map thS (tP ts th))).length : Nat) : Int) = (((tP ts th)).length : Int), True, ((((List.map thS ts)).length : Nat) : Int) = ((ts).length : Int), ((((tP ts th)).length : Int) != ((ts).length : Int)) = false, True] ⟨trivial, (by simp), trivial, (by simp), bne_eq_false_iff_eq.2 (by omega), trivial, trivial⟩ ?_
   refine cf ?_
   refine xw_skip ?_
   refine an ?_
   refine xw_seq ?_
   refine xw_seq ?_
   refine reg ?_
   refine rki [] 2 0 [37, 36, 9, 7, 6, 3, 1, 2] [1, 0] [True] ⟨trivial, trivial⟩ ?_
   refine pc (acan_2 W xs ys f0 f1 f2 t0 t1 t2 sz lm ts ph scn fl os brk th ‹_› ‹_› ‹_› ‹_› ‹_› ‹_› ‹_› ‹_› ‹_› ‹_› ‹_› ‹_› (by omega) ‹_› ‹_› ‹_› ‹_› (by omega) ‹_› ‹_› ‹_›) ?_
   refine rk [] 1 3 ⟨[(39, .f), (9, .p 1), (7, .t), (6, .f), (3, .p 0), (1, .i th), (2, .i oth)], [(1, .cells (hp W xs ys f0 f1 f2 t0 t1 t2 sz lm (tP ts th) ph scn fl os brk) 32), (0, .cells (hp W xs ys f0 f1 f2 t0 t1 t2 sz lm ts ph scn fl os brk) 32)], 2⟩ [] trivial ?_
   refine en ?_
   refine an ?_
   refine cf ?_
   refine xw_skip ?_
   refine an ?_
   refine xw_seq ?_
   refine xw_seq ?_
   refine reg ?_
   refine rki [(1, .bool (decide (oth < 0)))] 3 0 [48, 9, 7, 6, 3, 1, 2] [1, 0] [sm (decide (oth < 0))] ⟨rfl, trivial⟩ ?_
   refine splitr 48 (x := (decide (oth < 0))) (by kernel_rfl) (fun h21 => ?_) (fun h21 => ?_)
   ·
    replace h21 : oth < 0 := of_decide_eq_true h21
    refine rki [] 11 3 [59, 9, 7, 6, 3, 2] [1, 0] [True, True] ⟨trivial, trivial, trivial⟩ ?_
    refine en ?_
    refine an ?_
    refine ct ?_
    refine rgi [] 2 [6, 9, 7, 3, 2] [1, 0] [] trivial ?_
    refine xw_ret ?_
    refine an_ret ?_
    exact bs (.t) rfl
   ·
    replace h21 : ¬ (oth < 0) := of_decide_eq_false h21
    refine rki [(6, .i ((ts).length : Int)), (7, .bool (decide (((ts).length : Int) ≤ oth)))] 7 3 [55, 9, 7, 6, 3, 1, 2] [1, 0] [True, ((((List.map thS ts)).length : Nat) : Int) = ((ts).length : Int), sm (decide (((ts).length : Int) ≤ oth)), True] ⟨trivial, (by simp), rfl, trivial, trivial⟩ ?_
    refine splitr 55 (x := (decide (((ts).length : Int) ≤ oth))) (by kernel_rfl) (fun h22 => ?_) (fun h22 => ?_)
    ·
     replace h22 : (ts.length : Int) ≤ oth := of_decide_eq_true h22
     refine rki [] 4 10 [59, 9, 7, 6, 3, 2] [1, 0] [True] ⟨trivial, trivial⟩ ?_
     refine en ?_
     refine an ?_
     refine ct ?_
     refine rg [] 2 ⟨[(6, .t), (9, .p 1), (7, .t), (3, .p 0), (2, .i oth)], [(1, .cells (hp W xs ys f0 f1 f2 t0 t1 t2 sz lm (tP ts th) ph scn fl os brk) 32), (0, .cells (hp W xs ys f0 f1 f2 t0 t1 t2 sz lm ts ph scn fl os brk) 32)], 2⟩ [] trivial ?_
     refine xw_ret ?_
     refine an_ret ?_
     exact bs (.t) rfl
    ·
     replace h22 : ¬ ((ts.length : Int) ≤ oth) := of_decide_eq_false h22
     refine rki [(12, .bool (oth == th))] 4 10 [59, 9, 7, 6, 3, 2] [1, 0] [sm (oth == th), True] ⟨rfl, trivial, trivial⟩ ?_
     refine en ?_
     refine an ?_
     refine xw_cond (b := (oth == th)) (by kernel_rfl) (fun h23 => ?_) (fun h23 => ?_)
     ·
      replace h23 : oth = th := eq_of_beq h23
      refine rg [] 2 ⟨[(6, .t), (9, .p 1), (7, .t), (3, .p 0), (2, .i oth)], [(1, .cells (hp W xs ys f0 f1 f2 t0 t1 t2 sz lm (tP ts th) ph scn fl os brk) 32), (0, .cells (hp W xs ys f0 f1 f2 t0 t1 t2 sz lm ts ph scn fl os brk) 32)], 2⟩ [] trivial ?_
      refine xw_ret ?_
      refine an_ret ?_
      exact bs (.t) rfl
     ·
      replace h23 : oth ≠ th := ne_of_beq_false h23
      refine xw_skip ?_
      refine an ?_
      refine rg [] 3 ⟨[(11, .p 2), (9, .p 1), (7, .t), (6, .f), (3, .p 0), (2, .i oth)], [(2, .cells (hp W xs ys f0 f1 f2 t0 t1 t2 sz lm ts ph scn fl os brk) 32), (1, .cells (hp W xs ys f0 f1 f2 t0 t1 t2 sz lm (tP ts th) ph scn fl os brk) 32), (0, .cells (hp W xs ys f0 f1 f2 t0 t1 t2 sz lm ts ph scn fl os brk) 32)], 3⟩ [True, True] ⟨trivial, trivial, trivial⟩ ?_
      refine rgi [] 3 [12, 11, 9, 7, 6, 3, 2] [3, 2, 1, 0] [True, True] ⟨trivial, trivial, trivial⟩ ?_
      refine xw_seq ?_
      refine reg ?_
      refine rki [(3, .agg (tc (thA ts oth)))] 4 0 [66, 12, 11, 9, 7, 6, 2] [3, 2, 1] [True, (0 : Int) ≤ oth ∧ oth < ((((List.map thS ts)).length : Nat) : Int) ∧ ((List.map thS ts))[(oth : Int).toNat]? = some (.agg (tc (thA ts oth)))] ⟨trivial, (ix_th (by omega) (by first | omega | (simp only [len_st]; omega) | (simp; done) | (simp; omega) | (simp [len_st, len_stx, len_sty, len_zx, len_zy]; omega))), trivial⟩ ?_
      have h24 : U64s (Th.st (thA ts oth)) := (Ths.at (by first | assumption | exact U64s.st (by assumption) _ (by omega)) _).1
      have h25 : ((Th.st (thA ts oth)).length : Int) * 8 ≤ 140737488355000 := (Ths.at (by first | assumption | exact U64s.st (by assumption) _ (by omega)) _).2.1
      have h26 : (-9223372036854775808 ≤ (Th.b0 (thA ts oth)) ∧ (Th.b0 (thA ts oth)) ≤ 9223372036854775807) := (Ths.at (by first | assumption | exact U64s.st (by assumption) _ (by omega)) _).2.2.1
      have h27 : (-9223372036854775808 ≤ (Th.b1 (thA ts oth)) ∧ (Th.b1 (thA ts oth)) ≤ 9223372036854775807) := (Ths.at (by first | assumption | exact U64s.st (by assumption) _ (by omega)) _).2.2.2.1
      have h28 : Ents (Th.lg (thA ts oth)) := (Ths.at (by first | assumption | exact U64s.st (by assumption) _ (by omega)) _).2.2.2.2.1
      have h29 : ((Th.lg (thA ts oth)).length : Int) * 16 ≤ 140737488355000 := (Ths.at (by first | assumption | exact U64s.st (by assumption) _ (by omega)) _).2.2.2.2.2.1
      have h30 : Ops (Th.lf (thA ts oth)) := (Ths.at (by first | assumption | exact U64s.st (by assumption) _ (by omega)) _).2.2.2.2.2.2.1
      have h31 : ((Th.lf (thA ts oth)).length : Int) * 64 ≤ 140737488355000 := (Ths.at (by first | assumption | exact U64s.st (by assumption) _ (by omega)) _).2.2.2.2.2.2.2.1
      have h32 : Ents (Th.pd (thA ts oth)) := (Ths.at (by first | assumption | exact U64s.st (by assumption) _ (by omega)) _).2.2.2.2.2.2.2.2.1
      have h33 : ((Th.pd (thA ts oth)).length : Int) * 16 ≤ 140737488355000 := (Ths.at (by first | assumption | exact U64s.st (by assumption) _ (by omega)) _).2.2.2.2.2.2.2.2.2.1
      have h34 : Anss (Th.dn (thA ts oth)) := (Ths.at (by first | assumption | exact U64s.st (by assumption) _ (by omega)) _).2.2.2.2.2.2.2.2.2.2.1
      have h35 : ((Th.dn (thA ts oth)).length : Int) * 24 ≤ 140737488355000 := (Ths.at (by first | assumption | exact U64s.st (by assumption) _ (by omega)) _).2.2.2.2.2.2.2.2.2.2.2
      refine rki [(5, .t)] 4 4 [12, 11, 9, 7, 6, 2] [3, 2, 1] [True, True] ⟨trivial, trivial, trivial⟩ ?_
      refine en ?_
      refine an ?_
      refine xw_seq ?_
      refine reg ?_
      refine rk [(3, .agg (tc (thA (tP ts th) oth)))] 4 0 ⟨[(73, .elt (.agg (tc (thA (tP ts th) oth)))), (12, .p 3), (11, .p 2), (7, .t), (6, .f)], [(3, .cells (hp W xs ys f0 f1 f2 t0 t1 t2 sz lm (tP ts th) ph scn fl os brk) 32), (2, .cells (mr W xs ys [.i f0, .i f1, .i f2, .i t0, .i t1, .i t2, .i sz, .i lm, .sl false 8 (List.map thS [(tE (thA ts oth))]), .i ph, .i scn, .i fl, (sN os), .i brk]) 32)], 4⟩ [True, (0 : Int) ≤ oth ∧ oth < ((((List.map thS (tP ts th))).length : Nat) : Int) ∧ ((List.map thS (tP ts th)))[(oth : Int).toNat]? = some (.agg (tc (thA (tP ts th) oth)))] ⟨trivial, (ix_th (by omega) (by first | omega | (simp only [len_st]; omega) | (simp; done) | (simp; omega) | (simp [len_st, len_stx, len_sty, len_zx, len_zy]; omega))), trivial⟩ ?_
      have h36 : U64s (Th.st (thA (tP ts th) oth)) := (Ths.at (by first | assumption | exact U64s.st (by assumption) _ (by omega)) _).1
      have h37 : ((Th.st (thA (tP ts th) oth)).length : Int) * 8 ≤ 140737488355000 := (Ths.at (by first | assumption | exact U64s.st (by assumption) _ (by omega)) _).2.1
      have h38 : (-9223372036854775808 ≤ (Th.b0 (thA (tP ts th) oth)) ∧ (Th.b0 (thA (tP ts th) oth)) ≤ 9223372036854775807) := (Ths.at (by first | assumption | exact U64s.st (by assumption) _ (by omega)) _).2.2.1
      have h39 : (-9223372036854775808 ≤ (Th.b1 (thA (tP ts th) oth)) ∧ (Th.b1 (thA (tP ts th) oth)) ≤ 9223372036854775807) := (Ths.at (by first | assumption | exact U64s.st (by assumption) _ (by omega)) _).2.2.2.1
      have h40 : Ents (Th.lg (thA (tP ts th) oth)) := (Ths.at (by first | assumption | exact U64s.st (by assumption) _ (by omega)) _).2.2.2.2.1
      have h41 : ((Th.lg (thA (tP ts th) oth)).length : Int) * 16 ≤ 140737488355000 := (Ths.at (by first | assumption | exact U64s.st (by assumption) _ (by omega)) _).2.2.2.2.2.1
      have h42 : Ops (Th.lf (thA (tP ts th) oth)) := (Ths.at (by first | assumption | exact U64s.st (by assumption) _ (by omega)) _).2.2.2.2.2.2.1
      have h43 : ((Th.lf (thA (tP ts th) oth)).length : Int) * 64 ≤ 140737488355000 := (Ths.at (by first | assumption | exact U64s.st (by assumption) _ (by omega)) _).2.2.2.2.2.2.2.1
      have h44 : Ents (Th.pd (thA (tP ts th) oth)) := (Ths.at (by first | assumption | exact U64s.st (by assumption) _ (by omega)) _).2.2.2.2.2.2.2.2.1
      have h45 : ((Th.pd (thA (tP ts th) oth)).length : Int) * 16 ≤ 140737488355000 := (Ths.at (by first | assumption | exact U64s.st (by assumption) _ (by omega)) _).2.2.2.2.2.2.2.2.2.1
      have h46 : Anss (Th.dn (thA (tP ts th) oth)) := (Ths.at (by first | assumption | exact U64s.st (by assumption) _ (by omega)) _).2.2.2.2.2.2.2.2.2.2.1
      have h47 : ((Th.dn (thA (tP ts th) oth)).length : Int) * 24 ≤ 140737488355000 := (Ths.at (by first | assumption | exact U64s.st (by assumption) _ (by omega)) _).2.2.2.2.2.2.2.2.2.2.2
      refine rki [(5, .t)] 4 4 [12, 11, 7, 6] [3, 2] [True, True] ⟨trivial, trivial, trivial⟩ ?_
      refine en ?_
      refine an ?_
      refine rgi [] 3 [13, 12, 11, 7, 6] [4, 3, 2] [True, True] ⟨trivial, trivial, trivial⟩ ?_
      refine rgi [] 4 [13, 12, 11, 7, 6] [4, 3, 2] [True, True] ⟨trivial, trivial, trivial⟩ ?_
      refine rg [] 4 ⟨[(13, .p 4), (12, .p 3), (11, .p 2), (7, .t), (6, .f)], [(4, .cells (mr W xs ys [.i f0, .i f1, .i f2, .i t0, .i t1, .i t2, .i sz, .i lm, .sl false 8 (List.map thS [(tE (thA (tP ts th) oth))]), .i ph, .i scn, .i fl, (sN os), .i brk]) 32), (3, .cells (mr W xs ys [.i f0, .i f1, .i f2, .i t0, .i t1, .i t2, .i sz, .i lm, .sl false 8 (List.map thS [(tE (thA (tP ts th) oth))]), .i ph, .i scn, .i fl, (sN os), .i brk]) 32), (2, .cells (mr W xs ys [.i f0, .i f1, .i f2, .i t0, .i t1, .i t2, .i sz, .i lm, .sl false 8 (List.map thS [(tE (thA ts oth))]), .i ph, .i scn, .i fl, (sN os), .i brk]) 32)], 5⟩ [True, True] ⟨trivial, trivial, trivial⟩ ?_
      refine rgi [] 4 [13, 12, 11, 7, 6] [4, 3, 2] [True, True] ⟨trivial, trivial, trivial⟩ ?_
      refine xw_seq ?_
      refine reg ?_
      refine rki [] 4 0 [90, 89, 88, 12, 6] [3] [True, True] ⟨trivial, trivial, trivial⟩ ?_
      refine pcall1 (args := [.agg (mr W xs ys [.i f0, .i f1, .i f2, .i t0, .i t1, .i t2, .i sz, .i lm, .sl false 8 (List.map thS [(tE (thA (tP ts th) oth))]), .i ph, .i scn, .i fl, (sN os), .i brk]), .agg (mr W xs ys [.i f0, .i f1, .i f2, .i t0, .i t1, .i t2, .i sz, .i lm, .sl false 8 (List.map thS [(tE (thA ts oth))]), .i ph, .i scn, .i fl, (sN os), .i brk])]) (args' := [.agg (mr W xs ys [.i f0, .i f1, .i f2, .i t0, .i t1, .i t2, .i sz, .i lm, .sl false 8 (List.map thS [(tE (thA (tP ts th) oth))]), .i ph, .i scn, .i fl, (sN os), .i brk]), .agg (mr W xs ys [.i f0, .i f1, .i f2, .i t0, .i t1, .i t2, .i sz, .i lm, .sl false 8 (List.map thS [(tE (thA ts oth))]), .i ph, .i scn, .i fl, (sN os), .i brk])]) (d := (some 91)) (sv := .t) (by kernel_rfl) (eqheap2 W xs ys f0 f1 f2 t0 t1 t2 sz lm [(tE (thA (tP ts th) oth))] ph scn fl os brk [(tE (thA ts oth))] (by first | omega | exact th_l1 | exact ths_one (Ths.at (by assumption) _) | exact eqt_one (by omega) (by omega) (by omega) | assumption | exact rfl) ‹_› ‹_› ‹_› ‹_› ‹_› ‹_› ‹_› ‹_› ‹_› ‹_› ‹_› (by first | omega | exact th_l1 | exact ths_one (Ths.at (by assumption) _) | exact eqt_one (by omega) (by omega) (by omega) | assumption | exact rfl) (by first | omega | exact th_l1 | exact ths_one (Ths.at (by assumption) _) | exact eqt_one (by omega) (by omega) (by omega) | assumption | exact rfl) ‹_› ‹_› ‹_› ‹_› (by omega) ‹_› (by omega) (by omega)) [(W : Int) = W, (false = true → false = true), ((m64 xs) : List SV) = (m64 xs), (false = true → false = true), ((m64 ys) : List SV) = (m64 ys), (f0 : Int) = f0, (f1 : Int) = f1, (f2 : Int) = f2, (t0 : Int) = t0, (t1 : Int) = t1, (t2 : Int) = t2, (sz : Int) = sz, (lm : Int) = lm, (false = true → false = true), ((List.map thS [(tE (thA (tP ts th) oth))]) : List SV) = (List.map thS [(tE (thA (tP ts th) oth))]), (ph : Int) = ph, (scn : Int) = scn, (fl : Int) = fl, (false = true → false = true), ((List.map (SV.int .i64) os) : List SV) = (List.map (SV.int .i64) os), (brk : Int) = brk, (W : Int) = W, (false = true → false = true), ((m64 xs) : List SV) = (m64 xs), (false = true → false = true), ((m64 ys) : List SV) = (m64 ys), (f0 : Int) = f0, (f1 : Int) = f1, (f2 : Int) = f2, (t0 : Int) = t0, (t1 : Int) = t1, (t2 : Int) = t2, (sz : Int) = sz, (lm : Int) = lm, (false = true → false = true), ((List.map thS [(tE (thA ts oth))]) : List SV) = (List.map thS [(tE (thA ts oth))]), (ph : Int) = ph, (scn : Int) = scn, (fl : Int) = fl, (false = true → false = true), ((List.map (SV.int .i64) os) : List SV) = (List.map (SV.int .i64) os), (brk : Int) = brk] (by kernel_rfl) ⟨rfl, id, rfl, id, rfl, rfl, rfl, rfl, rfl, rfl, rfl, rfl, rfl, id, rfl, rfl, rfl, rfl, id, rfl, rfl, rfl, id, rfl, id, rfl, rfl, rfl, rfl, rfl, rfl, rfl, rfl, rfl, id, rfl, rfl, rfl, rfl, id, rfl, rfl, trivial⟩ (by kernel_rfl) ?_
      refine rki [(9, .i 1), (10, .t)] 8 5 [6] [] [True, True, ((((List.map thS [(tE (thA (tP ts th) oth))]) : List SV).length : Nat) : Int) = 1, (1 == 1) = true, True] ⟨trivial, trivial, rfl, beq_iff_eq.2 (by omega), trivial, trivial⟩ ?_
      refine en ?_
      refine an ?_
      refine xw_ret ?_
      exact bs (.t) rfl
  ·
   have h23 : 0 ≤ th ∧ th < (ts.length : Int) := (can_is ‹_›).1
   have h24 : brk = 0 := (can_is ‹_›).2.1
   have h25 : 0 < ((Th.pd (thA ts th)).length : Int) ∨ (((Th.pd (thA ts th)).length : Int) = 0 ∧ 0 < ((Th.lf (thA ts th)).length : Int) ∧ ph ≠ 2) := can_nx ‹_›
   have h26 : (X18.length : Int) = W := h19.1.1
   have h27 : (Y19.length : Int) = W := h19.1.2.1
   have h28 : U64s X18 := h19.1.2.2.1
   have h29 : U64s Y19 := h19.1.2.2.2
   have h30 : f1 ≤ F110 ∧ F110 ≤ f2 := h19.2.1
   have h31 : U64s st111 := h19.2.2.1.1
   have h32 : (st111.length : Int) * 8 ≤ 140737488355000 := h19.2.2.1.2
   have h33 : (p112 = 0 ∧ q113 = 0) ∨ (0 ≤ p112 ∧ p112 ≤ q113 ∧ q113 ≤ F110) := h19.2.2.2.1
   have h34 : Ents pd114 := h19.2.2.2.2.1.1
   have h35 : (pd114.length : Int) ≤ 1 := h19.2.2.2.2.1.2
   have h36 : 0 ≤ e115 ∧ e115 ≤ 100 := h19.2.2.2.2.2.1.1
   have h37 : 0 ≤ v116 ∧ v116 ≤ 18446744073709551615 := h19.2.2.2.2.2.1.2
   have h38 : Ths (tW ts th st111 p112 q113 pd114 wt118) := (ths_set ‹_› (th_work (Ths.at ‹_› th) ‹_› (by omega) (by omega) (by omega) ‹_› (by omega)))
   have h39 : ((tW ts th st111 p112 q113 pd114 wt118).length : Int) = (ts.length : Int) := len_set
   have h40 : ((Th.dn (thA (tW ts th st111 p112 q113 pd114 wt118) th)).length : Int) = ((Th.dn (thA ts th)).length : Int) := (by rw [th_set (by omega) (by omega)]; try first | assumption | (simp; done) | (simp; omega))
   have h41 : ((Th.lf (thA (tW ts th st111 p112 q113 pd114 wt118) th)).length : Int) = ((Th.lf (thA ts th)).length : Int) := (by rw [th_set (by omega) (by omega)]; try first | assumption | (simp; done) | (simp; omega))
   have h42 : ((Th.lg (thA (tW ts th st111 p112 q113 pd114 wt118) th)).length : Int) = ((Th.lg (thA ts th)).length : Int) := (by rw [th_set (by omega) (by omega)]; try first | assumption | (simp; done) | (simp; omega))
   have h43 : ((Th.pd (thA (tW ts th st111 p112 q113 pd114 wt118) th)).length : Int) = ((pd114).length : Int) := (by rw [th_set (by omega) (by omega)]; try first | assumption | (simp; done) | (simp; omega))
   have h44 : (Th.wt (thA (tW ts th st111 p112 q113 pd114 wt118) th)) = true := (by rw [th_set (by omega) (by omega)]; try first | assumption | (simp; done) | (simp; omega))
   have h45 : RGT W X18 Y19 f0 F110 f2 t0 t1 t2 sz lm (tW ts th st111 p112 q113 pd114 wt118) ph scn := rgt_do ‹RGT W xs ys f0 f1 f2 t0 t1 t2 sz lm ts ph scn› (by omega) (by omega) (by omega) (by omega) (by omega)
   refine rki [] 2 3 [9, 7, 6, 3, 1, 2] [1, 0] [True] ⟨trivial, trivial⟩ ?_
   refine en ?_
   refine an ?_
   refine xw_seq ?_
   refine reg ?_
   refine rk [] 1 0 ⟨[(23, .agg (hp W X18 Y19 f0 F110 f2 t0 t1 t2 sz lm (tW ts th st111 p112 q113 pd114 wt118) ph scn fl os brk)), (9, .p 1), (7, .t), (6, .f), (3, .p 0), (1, .i th), (2, .i oth)], [(1, .cells (hp W X18 Y19 f0 F110 f2 t0 t1 t2 sz lm (tW ts th st111 p112 q113 pd114 wt118) ph scn fl os brk) 32), (0, .cells (hp W xs ys f0 f1 f2 t0 t1 t2 sz lm ts ph scn fl os brk) 32)], 2⟩ [True] ⟨trivial, trivial⟩ ?_
   refine pc (hrightB_1 W X18 Y19 f0 F110 f2 t0 t1 t2 sz lm (tW ts th st111 p112 q113 pd114 wt118) ph scn fl os brk ‹_› ‹_› ‹_› ‹_› (by omega) ‹_› ‹_› ‹_› ‹_› ‹_› ‹_› ‹_› (by omega) ‹_› ‹_› ‹_› ‹_› (by omega) ‹_› ‹_›) ?_
   refine rki [] 1 2 [10, 9, 7, 6, 3, 1, 2] [1, 0] [] trivial ?_
   refine en ?_
   refine an ?_
   refine xw_seq ?_
   refine rgi [(5, .i (((tW ts th st111 p112 q113 pd114 wt118)).length : Int)), (8, .i ((ts).length : Int)), (9, .f)] 11 [35, 9, 7, 6, 3, 1, 2] [1, 0] [True, ((((List.map thS (tW ts th st111 p112 q113 pd114 wt118))).length : Nat) : Int) = (((tW ts th st111 p112 q113 pd114 wt118)).length : Int), True, ((((List.map thS ts)).length : Nat) : Int) = ((ts).length : Int), ((((tW ts th st111 p112 q113 pd114 wt118)).length : Int) != ((ts).length : Int)) = false, True] ⟨trivial, (by simp), trivial, (by simp), bne_eq_false_iff_eq.2 (by omega), trivial, trivial⟩ ?_
   refine cf ?_
   refine xw_skip ?_
   refine an ?_
   refine xw_seq ?_
   refine xw_seq ?_
   refine reg ?_
   refine rki [] 2 0 [37, 36, 9, 7, 6, 3, 1, 2] [1, 0] [True] ⟨trivial, trivial⟩ ?_
   refine pc (acan_2 W xs ys f0 f1 f2 t0 t1 t2 sz lm ts ph scn fl os brk th ‹_› ‹_› ‹_› ‹_› ‹_› ‹_› ‹_› ‹_› ‹_› ‹_› ‹_› ‹_› (by omega) ‹_› ‹_› ‹_› ‹_› (by omega) ‹_› ‹_› ‹_›) ?_
   refine rk [] 1 3 ⟨[(39, .f), (9, .p 1), (7, .t), (6, .f), (3, .p 0), (1, .i th), (2, .i oth)], [(1, .cells (hp W X18 Y19 f0 F110 f2 t0 t1 t2 sz lm (tW ts th st111 p112 q113 pd114 wt118) ph scn fl os brk) 32), (0, .cells (hp W xs ys f0 f1 f2 t0 t1 t2 sz lm ts ph scn fl os brk) 32)], 2⟩ [] trivial ?_
   refine en ?_
   refine an ?_
   refine cf ?_
   refine xw_skip ?_
   refine an ?_
   refine xw_seq ?_
   refine xw_seq ?_
   refine reg ?_
   refine rki [(1, .bool (decide (oth < 0)))] 3 0 [48, 9, 7, 6, 3, 1, 2] [1, 0] [sm (decide (oth < 0))] ⟨rfl, trivial⟩ ?_
   refine splitr 48 (x := (decide (oth < 0))) (by kernel_rfl) (fun h46 => ?_) (fun h46 => ?_)
   ·
    replace h46 : oth < 0 := of_decide_eq_true h46
    refine rki [] 11 3 [59, 9, 7, 6, 3, 2] [1, 0] [True, True] ⟨trivial, trivial, trivial⟩ ?_
    refine en ?_
    refine an ?_
    refine ct ?_
    refine rgi [] 2 [6, 9, 7, 3, 2] [1, 0] [] trivial ?_
    refine xw_ret ?_
    refine an_ret ?_
    exact bs (.t) rfl
   ·
    replace h46 : ¬ (oth < 0) := of_decide_eq_false h46
    refine rki [(6, .i ((ts).length : Int)), (7, .bool (decide (((ts).length : Int) ≤ oth)))] 7 3 [55, 9, 7, 6, 3, 1, 2] [1, 0] [True, ((((List.map thS ts)).length : Nat) : Int) = ((ts).length : Int), sm (decide (((ts).length : Int) ≤ oth)), True] ⟨trivial, (by simp), rfl, trivial, trivial⟩ ?_
    refine splitr 55 (x := (decide (((ts).length : Int) ≤ oth))) (by kernel_rfl) (fun h47 => ?_) (fun h47 => ?_)
    ·
     replace h47 : (ts.length : Int) ≤ oth := of_decide_eq_true h47
     refine rki [] 4 10 [59, 9, 7, 6, 3, 2] [1, 0] [True] ⟨trivial, trivial⟩ ?_
     refine en ?_
     refine an ?_
     refine ct ?_
     refine rg [] 2 ⟨[(6, .t), (9, .p 1), (7, .t), (3, .p 0), (2, .i oth)], [(1, .cells (hp W X18 Y19 f0 F110 f2 t0 t1 t2 sz lm (tW ts th st111 p112 q113 pd114 wt118) ph scn fl os brk) 32), (0, .cells (hp W xs ys f0 f1 f2 t0 t1 t2 sz lm ts ph scn fl os brk) 32)], 2⟩ [] trivial ?_
     refine xw_ret ?_
     refine an_ret ?_
     exact bs (.t) rfl
    ·
     replace h47 : ¬ ((ts.length : Int) ≤ oth) := of_decide_eq_false h47
     refine rki [(12, .bool (oth == th))] 4 10 [59, 9, 7, 6, 3, 2] [1, 0] [sm (oth == th), True] ⟨rfl, trivial, trivial⟩ ?_
     refine en ?_
     refine an ?_
     refine xw_cond (b := (oth == th)) (by kernel_rfl) (fun h48 => ?_) (fun h48 => ?_)
     ·
      replace h48 : oth = th := eq_of_beq h48
      refine rg [] 2 ⟨[(6, .t), (9, .p 1), (7, .t), (3, .p 0), (2, .i oth)], [(1, .cells (hp W X18 Y19 f0 F110 f2 t0 t1 t2 sz lm (tW ts th st111 p112 q113 pd114 wt118) ph scn fl os brk) 32), (0, .cells (hp W xs ys f0 f1 f2 t0 t1 t2 sz lm ts ph scn fl os brk) 32)], 2⟩ [] trivial ?_
      refine xw_ret ?_
      refine an_ret ?_
      exact bs (.t) rfl
     ·
      replace h48 : oth ≠ th := ne_of_beq_false h48
      refine xw_skip ?_
      refine an ?_
      refine rg [] 3 ⟨[(11, .p 2), (9, .p 1), (7, .t), (6, .f), (3, .p 0), (2, .i oth)], [(2, .cells (hp W xs ys f0 f1 f2 t0 t1 t2 sz lm ts ph scn fl os brk) 32), (1, .cells (hp W X18 Y19 f0 F110 f2 t0 t1 t2 sz lm (tW ts th st111 p112 q113 pd114 wt118) ph scn fl os brk) 32), (0, .cells (hp W xs ys f0 f1 f2 t0 t1 t2 sz lm ts ph scn fl os brk) 32)], 3⟩ [True, True] ⟨trivial, trivial, trivial⟩ ?_
      refine rgi [] 3 [12, 11, 9, 7, 6, 3, 2] [3, 2, 1, 0] [True, True] ⟨trivial, trivial, trivial⟩ ?_
      refine xw_seq ?_
      refine reg ?_
      refine rki [(3, .agg (tc (thA ts oth)))] 4 0 [66, 12, 11, 9, 7, 6, 2] [3, 2, 1] [True, (0 : Int) ≤ oth ∧ oth < ((((List.map thS ts)).length : Nat) : Int) ∧ ((List.map thS ts))[(oth : Int).toNat]? = some (.agg (tc (thA ts oth)))] ⟨trivial, (ix_th (by omega) (by first | omega | (simp only [len_st]; omega) | (simp; done) | (simp; omega) | (simp [len_st, len_stx, len_sty, len_zx, len_zy]; omega))), trivial⟩ ?_
      have h49 : U64s (Th.st (thA ts oth)) := (Ths.at (by first | assumption | exact U64s.st (by assumption) _ (by omega)) _).1
      have h50 : ((Th.st (thA ts oth)).length : Int) * 8 ≤ 140737488355000 := (Ths.at (by first | assumption | exact U64s.st (by assumption) _ (by omega)) _).2.1
      have h51 : (-9223372036854775808 ≤ (Th.b0 (thA ts oth)) ∧ (Th.b0 (thA ts oth)) ≤ 9223372036854775807) := (Ths.at (by first | assumption | exact U64s.st (by assumption) _ (by omega)) _).2.2.1
      have h52 : (-9223372036854775808 ≤ (Th.b1 (thA ts oth)) ∧ (Th.b1 (thA ts oth)) ≤ 9223372036854775807) := (Ths.at (by first | assumption | exact U64s.st (by assumption) _ (by omega)) _).2.2.2.1
      have h53 : Ents (Th.lg (thA ts oth)) := (Ths.at (by first | assumption | exact U64s.st (by assumption) _ (by omega)) _).2.2.2.2.1
      have h54 : ((Th.lg (thA ts oth)).length : Int) * 16 ≤ 140737488355000 := (Ths.at (by first | assumption | exact U64s.st (by assumption) _ (by omega)) _).2.2.2.2.2.1
      have h55 : Ops (Th.lf (thA ts oth)) := (Ths.at (by first | assumption | exact U64s.st (by assumption) _ (by omega)) _).2.2.2.2.2.2.1
      have h56 : ((Th.lf (thA ts oth)).length : Int) * 64 ≤ 140737488355000 := (Ths.at (by first | assumption | exact U64s.st (by assumption) _ (by omega)) _).2.2.2.2.2.2.2.1
      have h57 : Ents (Th.pd (thA ts oth)) := (Ths.at (by first | assumption | exact U64s.st (by assumption) _ (by omega)) _).2.2.2.2.2.2.2.2.1
      have h58 : ((Th.pd (thA ts oth)).length : Int) * 16 ≤ 140737488355000 := (Ths.at (by first | assumption | exact U64s.st (by assumption) _ (by omega)) _).2.2.2.2.2.2.2.2.2.1
      have h59 : Anss (Th.dn (thA ts oth)) := (Ths.at (by first | assumption | exact U64s.st (by assumption) _ (by omega)) _).2.2.2.2.2.2.2.2.2.2.1
      have h60 : ((Th.dn (thA ts oth)).length : Int) * 24 ≤ 140737488355000 := (Ths.at (by first | assumption | exact U64s.st (by assumption) _ (by omega)) _).2.2.2.2.2.2.2.2.2.2.2
      refine rki [(5, .t)] 4 4 [12, 11, 9, 7, 6, 2] [3, 2, 1] [True, True] ⟨trivial, trivial, trivial⟩ ?_
      refine en ?_
      refine an ?_
      refine xw_seq ?_
      refine reg ?_
      refine rk [(3, .agg (tc (thA (tW ts th st111 p112 q113 pd114 wt118) oth)))] 4 0 ⟨[(73, .elt (.agg (tc (thA (tW ts th st111 p112 q113 pd114 wt118) oth)))), (12, .p 3), (11, .p 2), (7, .t), (6, .f)], [(3, .cells (hp W X18 Y19 f0 F110 f2 t0 t1 t2 sz lm (tW ts th st111 p112 q113 pd114 wt118) ph scn fl os brk) 32), (2, .cells (mr W xs ys [.i f0, .i f1, .i f2, .i t0, .i t1, .i t2, .i sz, .i lm, .sl false 8 (List.map thS [(tE (thA ts oth))]), .i ph, .i scn, .i fl, (sN os), .i brk]) 32)], 4⟩ [True, (0 : Int) ≤ oth ∧ oth < ((((List.map thS (tW ts th st111 p112 q113 pd114 wt118))).length : Nat) : Int) ∧ ((List.map thS (tW ts th st111 p112 q113 pd114 wt118)))[(oth : Int).toNat]? = some (.agg (tc (thA (tW ts th st111 p112 q113 pd114 wt118) oth)))] ⟨trivial, (ix_th (by omega) (by first | omega | (simp only [len_st]; omega) | (simp; done) | (simp; omega) | (simp [len_st, len_stx, len_sty, len_zx, len_zy]; omega))), trivial⟩ ?_
      have h61 : U64s (Th.st (thA (tW ts th st111 p112 q113 pd114 wt118) oth)) := (Ths.at (by first | assumption | exact U64s.st (by assumption) _ (by omega)) _).1
      have h62 : ((Th.st (thA (tW ts th st111 p112 q113 pd114 wt118) oth)).length : Int) * 8 ≤ 140737488355000 := (Ths.at (by first | assumption | exact U64s.st (by assumption) _ (by omega)) _).2.1
      have h63 : (-9223372036854775808 ≤ (Th.b0 (thA (tW ts th st111 p112 q113 pd114 wt118) oth)) ∧ (Th.b0 (thA (tW ts th st111 p112 q113 pd114 wt118) oth)) ≤ 9223372036854775807) := (Ths.at (by first | assumption | exact U64s.st (by assumption) _ (by omega)) _).2.2.1
      have h64 : (-9223372036854775808 ≤ (Th.b1 (thA (tW ts th st111 p112 q113 pd114 wt118) oth)) ∧ (Th.b1 (thA (tW ts th st111 p112 q113 pd114 wt118) oth)) ≤ 9223372036854775807) := (Ths.at (by first | assumption | exact U64s.st (by assumption) _ (by omega)) _).2.2.2.1
      have h65 : Ents (Th.lg (thA (tW ts th st111 p112 q113 pd114 wt118) oth)) := (Ths.at (by first | assumption | exact U64s.st (by assumption) _ (by omega)) _).2.2.2.2.1
      have h66 : ((Th.lg (thA (tW ts th st111 p112 q113 pd114 wt118) oth)).length : Int) * 16 ≤ 140737488355000 := (Ths.at (by first | assumption | exact U64s.st (by assumption) _ (by omega)) _).2.2.2.2.2.1
      have h67 : Ops (Th.lf (thA (tW ts th st111 p112 q113 pd114 wt118) oth)) := (Ths.at (by first | assumption | exact U64s.st (by assumption) _ (by omega)) _).2.2.2.2.2.2.1
      have h68 : ((Th.lf (thA (tW ts th st111 p112 q113 pd114 wt118) oth)).length : Int) * 64 ≤ 140737488355000 := (Ths.at (by first | assumption | exact U64s.st (by assumption) _ (by omega)) _).2.2.2.2.2.2.2.1
      have h69 : Ents (Th.pd (thA (tW ts th st111 p112 q113 pd114 wt118) oth)) := (Ths.at (by first | assumption | exact U64s.st (by assumption) _ (by omega)) _).2.2.2.2.2.2.2.2.1
      have h70 : ((Th.pd (thA (tW ts th st111 p112 q113 pd114 wt118) oth)).length : Int) * 16 ≤ 140737488355000 := (Ths.at (by first | assumption | exact U64s.st (by assumption) _ (by omega)) _).2.2.2.2.2.2.2.2.2.1
      have h71 : Anss (Th.dn (thA (tW ts th st111 p112 q113 pd114 wt118) oth)) := (Ths.at (by first | assumption | exact U64s.st (by assumption) _ (by omega)) _).2.2.2.2.2.2.2.2.2.2.1
      have h72 : ((Th.dn (thA (tW ts th st111 p112 q113 pd114 wt118) oth)).length : Int) * 24 ≤ 140737488355000 := (Ths.at (by first | assumption | exact U64s.st (by assumption) _ (by omega)) _).2.2.2.2.2.2.2.2.2.2.2
      refine rki [(5, .t)] 4 4 [12, 11, 7, 6] [3, 2] [True, True] ⟨trivial, trivial, trivial⟩ ?_
      refine en ?_
      refine an ?_
      refine rgi [] 3 [13, 12, 11, 7, 6] [4, 3, 2] [True, True] ⟨trivial, trivial, trivial⟩ ?_
      refine rgi [] 4 [13, 12, 11, 7, 6] [4, 3, 2] [True, True] ⟨trivial, trivial, trivial⟩ ?_
      refine rg [] 4 ⟨[(13, .p 4), (12, .p 3), (11, .p 2), (7, .t), (6, .f)], [(4, .cells (mr W xs ys [.i f0, .i f1, .i f2, .i t0, .i t1, .i t2, .i sz, .i lm, .sl false 8 (List.map thS [(tE (thA (tW ts th st111 p112 q113 pd114 wt118) oth))]), .i ph, .i scn, .i fl, (sN os), .i brk]) 32), (3, .cells (mr W X18 Y19 [.i f0, .i F110, .i f2, .i t0, .i t1, .i t2, .i sz, .i lm, .sl false 8 (List.map thS [(tE (thA (tW ts th st111 p112 q113 pd114 wt118) oth))]), .i ph, .i scn, .i fl, (sN os), .i brk]) 32), (2, .cells (mr W xs ys [.i f0, .i f1, .i f2, .i t0, .i t1, .i t2, .i sz, .i lm, .sl false 8 (List.map thS [(tE (thA ts oth))]), .i ph, .i scn, .i fl, (sN os), .i brk]) 32)], 5⟩ [True, True] ⟨trivial, trivial, trivial⟩ ?_
      refine rgi [] 4 [13, 12, 11, 7, 6] [4, 3, 2] [True, True] ⟨trivial, trivial, trivial⟩ ?_
      refine xw_seq ?_
      refine reg ?_
      refine rki [] 4 0 [90, 89, 88, 12, 6] [3] [True, True] ⟨trivial, trivial, trivial⟩ ?_
      refine pcall1 (args := [.agg (mr W xs ys [.i f0, .i f1, .i f2, .i t0, .i t1, .i t2, .i sz, .i lm, .sl false 8 (List.map thS [(tE (thA (tW ts th st111 p112 q113 pd114 wt118) oth))]), .i ph, .i scn, .i fl, (sN os), .i brk]), .agg (mr W xs ys [.i f0, .i f1, .i f2, .i t0, .i t1, .i t2, .i sz, .i lm, .sl false 8 (List.map thS [(tE (thA ts oth))]), .i ph, .i scn, .i fl, (sN os), .i brk])]) (args' := [.agg (mr W xs ys [.i f0, .i f1, .i f2, .i t0, .i t1, .i t2, .i sz, .i lm, .sl false 8 (List.map thS [(tE (thA (tW ts th st111 p112 q113 pd114 wt118) oth))]), .i ph, .i scn, .i fl, (sN os), .i brk]), .agg (mr W xs ys [.i f0, .i f1, .i f2, .i t0, .i t1, .i t2, .i sz, .i lm, .sl false 8 (List.map thS [(tE (thA ts oth))]), .i ph, .i scn, .i fl, (sN os), .i brk])]) (d := (some 91)) (sv := .t) (by kernel_rfl) (eqheap2 W xs ys f0 f1 f2 t0 t1 t2 sz lm [(tE (thA (tW ts th st111 p112 q113 pd114 wt118) oth))] ph scn fl os brk [(tE (thA ts oth))] (by first | omega | exact th_l1 | exact ths_one (Ths.at (by assumption) _) | exact eqt_one (by omega) (by omega) (by omega) | assumption | exact rfl) ‹_› ‹_› ‹_› ‹_› ‹_› ‹_› ‹_› ‹_› ‹_› ‹_› ‹_› (by first | omega | exact th_l1 | exact ths_one (Ths.at (by assumption) _) | exact eqt_one (by omega) (by omega) (by omega) | assumption | exact rfl) (by first | omega | exact th_l1 | exact ths_one (Ths.at (by assumption) _) | exact eqt_one (by omega) (by omega) (by omega) | assumption | exact rfl) ‹_› ‹_› ‹_› ‹_› (by omega) ‹_› (by omega) (by omega)) [(W : Int) = W, (false = true → false = true), ((m64 xs) : List SV) = (m64 xs), (false = true → false = true), ((m64 ys) : List SV) = (m64 ys), (f0 : Int) = f0, (f1 : Int) = f1, (f2 : Int) = f2, (t0 : Int) = t0, (t1 : Int) = t1, (t2 : Int) = t2, (sz : Int) = sz, (lm : Int) = lm, (false = true → false = true), ((List.map thS [(tE (thA (tW ts th st111 p112 q113 pd114 wt118) oth))]) : List SV) = (List.map thS [(tE (thA (tW ts th st111 p112 q113 pd114 wt118) oth))]), (ph : Int) = ph, (scn : Int) = scn, (fl : Int) = fl, (false = true → false = true), ((List.map (SV.int .i64) os) : List SV) = (List.map (SV.int .i64) os), (brk : Int) = brk, (W : Int) = W, (false = true → false = true), ((m64 xs) : List SV) = (m64 xs), (false = true → false = true), ((m64 ys) : List SV) = (m64 ys), (f0 : Int) = f0, (f1 : Int) = f1, (f2 : Int) = f2, (t0 : Int) = t0, (t1 : Int) = t1, (t2 : Int) = t2, (sz : Int) = sz, (lm : Int) = lm, (false = true → false = true), ((List.map thS [(tE (thA ts oth))]) : List SV) = (List.map thS [(tE (thA ts oth))]), (ph : Int) = ph, (scn : Int) = scn, (fl : Int) = fl, (false = true → false = true), ((List.map (SV.int .i64) os) : List SV) = (List.map (SV.int .i64) os), (brk : Int) = brk] (by kernel_rfl) ⟨rfl, id, rfl, id, rfl, rfl, rfl, rfl, rfl, rfl, rfl, rfl, rfl, id, rfl, rfl, rfl, rfl, id, rfl, rfl, rfl, id, rfl, id, rfl, rfl, rfl, rfl, rfl, rfl, rfl, rfl, rfl, id, rfl, rfl, rfl, rfl, id, rfl, rfl, trivial⟩ (by kernel_rfl) ?_
      refine rki [(9, .i 1), (10, .t)] 8 5 [6] [] [True, True, ((((List.map thS [(tE (thA (tW ts th st111 p112 q113 pd114 wt118) oth))]) : List SV).length : Nat) : Int) = 1, (1 == 1) = true, True] ⟨trivial, trivial, rfl, beq_iff_eq.2 (by omega), trivial, trivial⟩ ?_
      refine en ?_
      refine an ?_
      refine xw_ret ?_
      exact bs (.t) rfl
  ·
   have h23 : 0 ≤ th ∧ th < (ts.length : Int) := (can_is ‹_›).1
   have h24 : brk = 0 := (can_is ‹_›).2.1
   have h25 : 0 < ((Th.pd (thA ts th)).length : Int) ∨ (((Th.pd (thA ts th)).length : Int) = 0 ∧ 0 < ((Th.lf (thA ts th)).length : Int) ∧ ph ≠ 2) := can_nx ‹_›
   have h26 : (X18.length : Int) = W := h19.1.1
   have h27 : (Y19.length : Int) = W := h19.1.2.1
   have h28 : U64s X18 := h19.1.2.2.1
   have h29 : U64s Y19 := h19.1.2.2.2
   have h30 : f1 ≤ F110 ∧ F110 ≤ f2 := h19.2.1
   have h31 : U64s st111 := h19.2.2.1.1
   have h32 : (st111.length : Int) * 8 ≤ 140737488355000 := h19.2.2.1.2
   have h33 : (p112 = 0 ∧ q113 = 0) ∨ (0 ≤ p112 ∧ p112 ≤ q113 ∧ q113 ≤ F110) := h19.2.2.2.1
   have h34 : Ents pd114 := h19.2.2.2.2.1.1
   have h35 : (pd114.length : Int) ≤ 1 := h19.2.2.2.2.1.2
   have h36 : 0 ≤ e115 ∧ e115 ≤ 100 := h19.2.2.2.2.2.1.1
   have h37 : 0 ≤ v116 ∧ v116 ≤ 18446744073709551615 := h19.2.2.2.2.2.1.2
   have h38 : Ths (tD ts th st111 p112 q113 pd114 wt118 e115 v116 yes117) := (ths_set ‹_› (th_done (Ths.at ‹_› th) ‹_› (by omega) (by omega) (by omega) ‹_› (by omega) (by omega) (by omega) (thg_at ‹_› th)))
   have h39 : ((tD ts th st111 p112 q113 pd114 wt118 e115 v116 yes117).length : Int) = (ts.length : Int) := len_set
   have h40 : ((Th.dn (thA (tD ts th st111 p112 q113 pd114 wt118 e115 v116 yes117) th)).length : Int) = ((Th.dn (thA ts th)).length : Int) + 1 := (by rw [th_set (by omega) (by omega)]; try first | assumption | (simp; done) | (simp; omega))
   have h41 : ((Th.lf (thA (tD ts th st111 p112 q113 pd114 wt118 e115 v116 yes117) th)).length : Int) = ((Th.lf (thA ts th)).length : Int) - 1 := (by rw [th_set (by omega) (by omega)]; try first | assumption | (simp; done) | (simp; omega))
   have h42 : ((Th.lg (thA (tD ts th st111 p112 q113 pd114 wt118 e115 v116 yes117) th)).length : Int) = ((Th.lg (thA ts th)).length : Int) := (by rw [th_set (by omega) (by omega)]; try first | assumption | (simp; done) | (simp; omega))
   have h43 : ((Th.pd (thA (tD ts th st111 p112 q113 pd114 wt118 e115 v116 yes117) th)).length : Int) = ((pd114).length : Int) := (by rw [th_set (by omega) (by omega)]; try first | assumption | (simp; done) | (simp; omega))
   have h44 : (Th.wt (thA (tD ts th st111 p112 q113 pd114 wt118 e115 v116 yes117) th)) = false := (by rw [th_set (by omega) (by omega)]; try first | assumption | (simp; done) | (simp; omega))
   have h45 : ((os ++ [th]).length : Int) = (os.length : Int) + 1 := len_app1
   have h46 : (ix (os ++ [th]) (((os ++ [th]).length : Int) - 1)) = th := (by simp [ix])
   have h47 : I64s (os ++ [th]) := i64_app1 ‹_› (by omega)
   have h48 : RGT W X18 Y19 f0 F110 f2 t0 t1 t2 sz lm (tD ts th st111 p112 q113 pd114 wt118 e115 v116 yes117) ph scn := rgt_do ‹RGT W xs ys f0 f1 f2 t0 t1 t2 sz lm ts ph scn› (by omega) (by omega) (by omega) (by omega) (by omega)
   refine rki [] 2 3 [9, 7, 6, 3, 1, 2] [1, 0] [True] ⟨trivial, trivial⟩ ?_
   refine en ?_
   refine an ?_
   refine xw_seq ?_
   refine reg ?_
   refine rk [] 1 0 ⟨[(23, .agg (hp W X18 Y19 f0 F110 f2 t0 t1 t2 sz lm (tD ts th st111 p112 q113 pd114 wt118 e115 v116 yes117) ph scn fl (os ++ [th]) brk)), (9, .p 1), (7, .t), (6, .f), (3, .p 0), (1, .i th), (2, .i oth)], [(1, .cells (hp W X18 Y19 f0 F110 f2 t0 t1 t2 sz lm (tD ts th st111 p112 q113 pd114 wt118 e115 v116 yes117) ph scn fl (os ++ [th]) brk) 32), (0, .cells (hp W xs ys f0 f1 f2 t0 t1 t2 sz lm ts ph scn fl os brk) 32)], 2⟩ [True] ⟨trivial, trivial⟩ ?_
   refine pcall1 (args := [.agg (hp W X18 Y19 f0 F110 f2 t0 t1 t2 sz lm (tD ts th st111 p112 q113 pd114 wt118 e115 v116 yes117) ph scn fl (os ++ [th]) brk)]) (args' := [.agg (hp W X18 Y19 f0 F110 f2 t0 t1 t2 sz lm (tD ts th st111 p112 q113 pd114 wt118 e115 v116 yes117) ph scn fl (os ++ [th]) brk)]) (d := (some 24)) (sv := .t) (by kernel_rfl) (hrightB_1 W X18 Y19 f0 F110 f2 t0 t1 t2 sz lm (tD ts th st111 p112 q113 pd114 wt118 e115 v116 yes117) ph scn fl (os ++ [th]) brk ‹_› ‹_› ‹_› ‹_› (by omega) ‹_› ‹_› ‹_› ‹_› ‹_› ‹_› ‹_› (by omega) ‹_› ‹_› ‹_› ‹_› (by omega) ‹_› ‹_›) [(W : Int) = W, (false = true → false = true), ((m64 X18) : List SV) = (m64 X18), (false = true → false = true), ((m64 Y19) : List SV) = (m64 Y19), (f0 : Int) = f0, (F110 : Int) = F110, (f2 : Int) = f2, (t0 : Int) = t0, (t1 : Int) = t1, (t2 : Int) = t2, (sz : Int) = sz, (lm : Int) = lm, (false = true → false = true), ((List.map thS (tD ts th st111 p112 q113 pd114 wt118 e115 v116 yes117)) : List SV) = (List.map thS (tD ts th st111 p112 q113 pd114 wt118 e115 v116 yes117)), (ph : Int) = ph, (scn : Int) = scn, (fl : Int) = fl, (false = true → false = true), ((List.map (SV.int .i64) (os ++ [th])) : List SV) = (List.map (SV.int .i64) (os ++ [th])), (brk : Int) = brk] (by kernel_rfl) ⟨rfl, id, rfl, id, rfl, rfl, rfl, rfl, rfl, rfl, rfl, rfl, rfl, id, rfl, rfl, rfl, rfl, id, rfl, rfl, trivial⟩ (by kernel_rfl) ?_
   refine rki [] 1 2 [10, 9, 7, 6, 3, 1, 2] [1, 0] [] trivial ?_
   refine en ?_
   refine an ?_
   refine xw_seq ?_
   refine rgi [(5, .i (((tD ts th st111 p112 q113 pd114 wt118 e115 v116 yes117)).length : Int)), (8, .i ((ts).length : Int)), (9, .f)] 11 [35, 9, 7, 6, 3, 1, 2] [1, 0] [True, ((((List.map thS (tD ts th st111 p112 q113 pd114 wt118 e115 v116 yes117))).length : Nat) : Int) = (((tD ts th st111 p112 q113 pd114 wt118 e115 v116 yes117)).length : Int), True, ((((List.map thS ts)).length : Nat) : Int) = ((ts).length : Int), ((((tD ts th st111 p112 q113 pd114 wt118 e115 v116 yes117)).length : Int) != ((ts).length : Int)) = false, True] ⟨trivial, (by simp), trivial, (by simp), bne_eq_false_iff_eq.2 (by omega), trivial, trivial⟩ ?_
   refine cf ?_
   refine xw_skip ?_
   refine an ?_
   refine xw_seq ?_
   refine xw_seq ?_
   refine reg ?_
   refine rki [] 2 0 [37, 36, 9, 7, 6, 3, 1, 2] [1, 0] [True] ⟨trivial, trivial⟩ ?_
   refine pc (acan_2 W xs ys f0 f1 f2 t0 t1 t2 sz lm ts ph scn fl os brk th ‹_› ‹_› ‹_› ‹_› ‹_› ‹_› ‹_› ‹_› ‹_› ‹_› ‹_› ‹_› (by omega) ‹_› ‹_› ‹_› ‹_› (by omega) ‹_› ‹_› ‹_›) ?_
   refine rk [] 1 3 ⟨[(39, .f), (9, .p 1), (7, .t), (6, .f), (3, .p 0), (1, .i th), (2, .i oth)], [(1, .cells (hp W X18 Y19 f0 F110 f2 t0 t1 t2 sz lm (tD ts th st111 p112 q113 pd114 wt118 e115 v116 yes117) ph scn fl (os ++ [th]) brk) 32), (0, .cells (hp W xs ys f0 f1 f2 t0 t1 t2 sz lm ts ph scn fl os brk) 32)], 2⟩ [] trivial ?_
   refine en ?_
   refine an ?_
   refine cf ?_
   refine xw_skip ?_
   refine an ?_
   refine xw_seq ?_
   refine xw_seq ?_
   refine reg ?_
   refine rki [(1, .bool (decide (oth < 0)))] 3 0 [48, 9, 7, 6, 3, 1, 2] [1, 0] [sm (decide (oth < 0))] ⟨rfl, trivial⟩ ?_
   refine splitr 48 (x := (decide (oth < 0))) (by kernel_rfl) (fun h49 => ?_) (fun h49 => ?_)
   ·
    replace h49 : oth < 0 := of_decide_eq_true h49
    refine rki [] 11 3 [59, 9, 7, 6, 3, 2] [1, 0] [True, True] ⟨trivial, trivial, trivial⟩ ?_
    refine en ?_
    refine an ?_
    refine ct ?_
    refine rgi [] 2 [6, 9, 7, 3, 2] [1, 0] [] trivial ?_
    refine xw_ret ?_
    refine an_ret ?_
    exact bs (.t) rfl
   ·
    replace h49 : ¬ (oth < 0) := of_decide_eq_false h49
    refine rki [(6, .i ((ts).length : Int)), (7, .bool (decide (((ts).length : Int) ≤ oth)))] 7 3 [55, 9, 7, 6, 3, 1, 2] [1, 0] [True, ((((List.map thS ts)).length : Nat) : Int) = ((ts).length : Int), sm (decide (((ts).length : Int) ≤ oth)), True] ⟨trivial, (by simp), rfl, trivial, trivial⟩ ?_
    refine splitr 55 (x := (decide (((ts).length : Int) ≤ oth))) (by kernel_rfl) (fun h50 => ?_) (fun h50 => ?_)
    ·
     replace h50 : (ts.length : Int) ≤ oth := of_decide_eq_true h50
     refine rki [] 4 10 [59, 9, 7, 6, 3, 2] [1, 0] [True] ⟨trivial, trivial⟩ ?_
     refine en ?_
     refine an ?_
     refine ct ?_
     refine rg [] 2 ⟨[(6, .t), (9, .p 1), (7, .t), (3, .p 0), (2, .i oth)], [(1, .cells (hp W X18 Y19 f0 F110 f2 t0 t1 t2 sz lm (tD ts th st111 p112 q113 pd114 wt118 e115 v116 yes117) ph scn fl (os ++ [th]) brk) 32), (0, .cells (hp W xs ys f0 f1 f2 t0 t1 t2 sz lm ts ph scn fl os brk) 32)], 2⟩ [] trivial ?_
     refine xw_ret ?_
     refine an_ret ?_
     exact bs (.t) rfl
    ·
     replace h50 : ¬ ((ts.length : Int) ≤ oth) := of_decide_eq_false h50
     refine rki [(12, .bool (oth == th))] 4 10 [59, 9, 7, 6, 3, 2] [1, 0] [sm (oth == th), True] ⟨rfl, trivial, trivial⟩ ?_
     refine en ?_
     refine an ?_
     refine xw_cond (b := (oth == th)) (by kernel_rfl) (fun h51 => ?_) (fun h51 => ?_)
     ·
      replace h51 : oth = th := eq_of_beq h51
      refine rg [] 2 ⟨[(6, .t), (9, .p 1), (7, .t), (3, .p 0), (2, .i oth)], [(1, .cells (hp W X18 Y19 f0 F110 f2 t0 t1 t2 sz lm (tD ts th st111 p112 q113 pd114 wt118 e115 v116 yes117) ph scn fl (os ++ [th]) brk) 32), (0, .cells (hp W xs ys f0 f1 f2 t0 t1 t2 sz lm ts ph scn fl os brk) 32)], 2⟩ [] trivial ?_
      refine xw_ret ?_
      refine an_ret ?_
      exact bs (.t) rfl
     ·
      replace h51 : oth ≠ th := ne_of_beq_false h51
      refine xw_skip ?_
      refine an ?_
      refine rg [] 3 ⟨[(11, .p 2), (9, .p 1), (7, .t), (6, .f), (3, .p 0), (2, .i oth)], [(2, .cells (hp W xs ys f0 f1 f2 t0 t1 t2 sz lm ts ph scn fl os brk) 32), (1, .cells (hp W X18 Y19 f0 F110 f2 t0 t1 t2 sz lm (tD ts th st111 p112 q113 pd114 wt118 e115 v116 yes117) ph scn fl (os ++ [th]) brk) 32), (0, .cells (hp W xs ys f0 f1 f2 t0 t1 t2 sz lm ts ph scn fl os brk) 32)], 3⟩ [True, True] ⟨trivial, trivial, trivial⟩ ?_
      refine rgi [] 3 [12, 11, 9, 7, 6, 3, 2] [3, 2, 1, 0] [True, True] ⟨trivial, trivial, trivial⟩ ?_
      refine xw_seq ?_
      refine reg ?_
      refine rki [(3, .agg (tc (thA ts oth)))] 4 0 [66, 12, 11, 9, 7, 6, 2] [3, 2, 1] [True, (0 : Int) ≤ oth ∧ oth < ((((List.map thS ts)).length : Nat) : Int) ∧ ((List.map thS ts))[(oth : Int).toNat]? = some (.agg (tc (thA ts oth)))] ⟨trivial, (ix_th (by omega) (by first | omega | (simp only [len_st]; omega) | (simp; done) | (simp; omega) | (simp [len_st, len_stx, len_sty, len_zx, len_zy]; omega))), trivial⟩ ?_
      have h52 : U64s (Th.st (thA ts oth)) := (Ths.at (by first | assumption | exact U64s.st (by assumption) _ (by omega)) _).1
      have h53 : ((Th.st (thA ts oth)).length : Int) * 8 ≤ 140737488355000 := (Ths.at (by first | assumption | exact U64s.st (by assumption) _ (by omega)) _).2.1
      have h54 : (-9223372036854775808 ≤ (Th.b0 (thA ts oth)) ∧ (Th.b0 (thA ts oth)) ≤ 9223372036854775807) := (Ths.at (by first | assumption | exact U64s.st (by assumption) _ (by omega)) _).2.2.1
      have h55 : (-9223372036854775808 ≤ (Th.b1 (thA ts oth)) ∧ (Th.b1 (thA ts oth)) ≤ 9223372036854775807) := (Ths.at (by first | assumption | exact U64s.st (by assumption) _ (by omega)) _).2.2.2.1
      have h56 : Ents (Th.lg (thA ts oth)) := (Ths.at (by first | assumption | exact U64s.st (by assumption) _ (by omega)) _).2.2.2.2.1
      have h57 : ((Th.lg (thA ts oth)).length : Int) * 16 ≤ 140737488355000 := (Ths.at (by first | assumption | exact U64s.st (by assumption) _ (by omega)) _).2.2.2.2.2.1
      have h58 : Ops (Th.lf (thA ts oth)) := (Ths.at (by first | assumption | exact U64s.st (by assumption) _ (by omega)) _).2.2.2.2.2.2.1
      have h59 : ((Th.lf (thA ts oth)).length : Int) * 64 ≤ 140737488355000 := (Ths.at (by first | assumption | exact U64s.st (by assumption) _ (by omega)) _).2.2.2.2.2.2.2.1
      have h60 : Ents (Th.pd (thA ts oth)) := (Ths.at (by first | assumption | exact U64s.st (by assumption) _ (by omega)) _).2.2.2.2.2.2.2.2.1
      have h61 : ((Th.pd (thA ts oth)).length : Int) * 16 ≤ 140737488355000 := (Ths.at (by first | assumption | exact U64s.st (by assumption) _ (by omega)) _).2.2.2.2.2.2.2.2.2.1
      have h62 : Anss (Th.dn (thA ts oth)) := (Ths.at (by first | assumption | exact U64s.st (by assumption) _ (by omega)) _).2.2.2.2.2.2.2.2.2.2.1
      have h63 : ((Th.dn (thA ts oth)).length : Int) * 24 ≤ 140737488355000 := (Ths.at (by first | assumption | exact U64s.st (by assumption) _ (by omega)) _).2.2.2.2.2.2.2.2.2.2.2
      refine rki [(5, .t)] 4 4 [12, 11, 9, 7, 6, 2] [3, 2, 1] [True, True] ⟨trivial, trivial, trivial⟩ ?_
      refine en ?_
      refine an ?_
      refine xw_seq ?_
      refine reg ?_
      refine rk [(3, .agg (tc (thA (tD ts th st111 p112 q113 pd114 wt118 e115 v116 yes117) oth)))] 4 0 ⟨[(73, .elt (.agg (tc (thA (tD ts th st111 p112 q113 pd114 wt118 e115 v116 yes117) oth)))), (12, .p 3), (11, .p 2), (7, .t), (6, .f)], [(3, .cells (hp W X18 Y19 f0 F110 f2 t0 t1 t2 sz lm (tD ts th st111 p112 q113 pd114 wt118 e115 v116 yes117) ph scn fl (os ++ [th]) brk) 32), (2, .cells (mr W xs ys [.i f0, .i f1, .i f2, .i t0, .i t1, .i t2, .i sz, .i lm, .sl false 8 (List.map thS [(tE (thA ts oth))]), .i ph, .i scn, .i fl, (sN os), .i brk]) 32)], 4⟩ [True, (0 : Int) ≤ oth ∧ oth < ((((List.map thS (tD ts th st111 p112 q113 pd114 wt118 e115 v116 yes117))).length : Nat) : Int) ∧ ((List.map thS (tD ts th st111 p112 q113 pd114 wt118 e115 v116 yes117)))[(oth : Int).toNat]? = some (.agg (tc (thA (tD ts th st111 p112 q113 pd114 wt118 e115 v116 yes117) oth)))] ⟨trivial, (ix_th (by omega) (by first | omega | (simp only [len_st]; omega) | (simp; done) | (simp; omega) | (simp [len_st, len_stx, len_sty, len_zx, len_zy]; omega))), trivial⟩ ?_
      have h64 : U64s (Th.st (thA (tD ts th st111 p112 q113 pd114 wt118 e115 v116 yes117) oth)) := (Ths.at (by first | assumption | exact U64s.st (by assumption) _ (by omega)) _).1
      have h65 : ((Th.st (thA (tD ts th st111 p112 q113 pd114 wt118 e115 v116 yes117) oth)).length : Int) * 8 ≤ 140737488355000 := (Ths.at (by first | assumption | exact U64s.st (by assumption) _ (by omega)) _).2.1
      have h66 : (-9223372036854775808 ≤ (Th.b0 (thA (tD ts th st111 p112 q113 pd114 wt118 e115 v116 yes117) oth)) ∧ (Th.b0 (thA (tD ts th st111 p112 q113 pd114 wt118 e115 v116 yes117) oth)) ≤ 9223372036854775807) := (Ths.at (by first | assumption | exact U64s.st (by assumption) _ (by omega)) _).2.2.1
      have h67 : (-9223372036854775808 ≤ (Th.b1 (thA (tD ts th st111 p112 q113 pd114 wt118 e115 v116 yes117) oth)) ∧ (Th.b1 (thA (tD ts th st111 p112 q113 pd114 wt118 e115 v116 yes117) oth)) ≤ 9223372036854775807) := (Ths.at (by first | assumption | exact U64s.st (by assumption) _ (by omega)) _).2.2.2.1
      have h68 : Ents (Th.lg (thA (tD ts th st111 p112 q113 pd114 wt118 e115 v116 yes117) oth)) := (Ths.at (by first | assumption | exact U64s.st (by assumption) _ (by omega)) _).2.2.2.2.1
      have h69 : ((Th.lg (thA (tD ts th st111 p112 q113 pd114 wt118 e115 v116 yes117) oth)).length : Int) * 16 ≤ 140737488355000 := (Ths.at (by first | assumption | exact U64s.st (by assumption) _ (by omega)) _).2.2.2.2.2.1
      have h70 : Ops (Th.lf (thA (tD ts th st111 p112 q113 pd114 wt118 e115 v116 yes117) oth)) := (Ths.at (by first | assumption | exact U64s.st (by assumption) _ (by omega)) _).2.2.2.2.2.2.1
      have h71 : ((Th.lf (thA (tD ts th st111 p112 q113 pd114 wt118 e115 v116 yes117) oth)).length : Int) * 64 ≤ 140737488355000 := (Ths.at (by first | assumption | exact U64s.st (by assumption) _ (by omega)) _).2.2.2.2.2.2.2.1
      have h72 : Ents (Th.pd (thA (tD ts th st111 p112 q113 pd114 wt118 e115 v116 yes117) oth)) := (Ths.at (by first | assumption | exact U64s.st (by assumption) _ (by omega)) _).2.2.2.2.2.2.2.2.1
      have h73 : ((Th.pd (thA (tD ts th st111 p112 q113 pd114 wt118 e115 v116 yes117) oth)).length : Int) * 16 ≤ 140737488355000 := (Ths.at (by first | assumption | exact U64s.st (by assumption) _ (by omega)) _).2.2.2.2.2.2.2.2.2.1
      have h74 : Anss (Th.dn (thA (tD ts th st111 p112 q113 pd114 wt118 e115 v116 yes117) oth)) := (Ths.at (by first | assumption | exact U64s.st (by assumption) _ (by omega)) _).2.2.2.2.2.2.2.2.2.2.1
      have h75 : ((Th.dn (thA (tD ts th st111 p112 q113 pd114 wt118 e115 v116 yes117) oth)).length : Int) * 24 ≤ 140737488355000 := (Ths.at (by first | assumption | exact U64s.st (by assumption) _ (by omega)) _).2.2.2.2.2.2.2.2.2.2.2
      refine rki [(5, .t)] 4 4 [12, 11, 7, 6] [3, 2] [True, True] ⟨trivial, trivial, trivial⟩ ?_
      refine en ?_
      refine an ?_
      refine rgi [] 3 [13, 12, 11, 7, 6] [4, 3, 2] [True, True] ⟨trivial, trivial, trivial⟩ ?_
      refine rgi [] 4 [13, 12, 11, 7, 6] [4, 3, 2] [True, True] ⟨trivial, trivial, trivial⟩ ?_
      refine rg [] 4 ⟨[(13, .p 4), (12, .p 3), (11, .p 2), (7, .t), (6, .f)], [(4, .cells (mr W xs ys [.i f0, .i f1, .i f2, .i t0, .i t1, .i t2, .i sz, .i lm, .sl false 8 (List.map thS [(tE (thA (tD ts th st111 p112 q113 pd114 wt118 e115 v116 yes117) oth))]), .i ph, .i scn, .i fl, (sN (os ++ [th])), .i brk]) 32), (3, .cells (mr W X18 Y19 [.i f0, .i F110, .i f2, .i t0, .i t1, .i t2, .i sz, .i lm, .sl false 8 (List.map thS [(tE (thA (tD ts th st111 p112 q113 pd114 wt118 e115 v116 yes117) oth))]), .i ph, .i scn, .i fl, (sN (os ++ [th])), .i brk]) 32), (2, .cells (mr W xs ys [.i f0, .i f1, .i f2, .i t0, .i t1, .i t2, .i sz, .i lm, .sl false 8 (List.map thS [(tE (thA ts oth))]), .i ph, .i scn, .i fl, (sN os), .i brk]) 32)], 5⟩ [True, True] ⟨trivial, trivial, trivial⟩ ?_
      refine rgi [] 4 [13, 12, 11, 7, 6] [4, 3, 2] [True, True] ⟨trivial, trivial, trivial⟩ ?_
      refine xw_seq ?_
      refine reg ?_
      refine rki [] 4 0 [90, 89, 88, 12, 6] [3] [True, True] ⟨trivial, trivial, trivial⟩ ?_
      refine pcall1 (args := [.agg (mr W xs ys [.i f0, .i f1, .i f2, .i t0, .i t1, .i t2, .i sz, .i lm, .sl false 8 (List.map thS [(tE (thA (tD ts th st111 p112 q113 pd114 wt118 e115 v116 yes117) oth))]), .i ph, .i scn, .i fl, (sN os), .i brk]), .agg (mr W xs ys [.i f0, .i f1, .i f2, .i t0, .i t1, .i t2, .i sz, .i lm, .sl false 8 (List.map thS [(tE (thA ts oth))]), .i ph, .i scn, .i fl, (sN os), .i brk])]) (args' := [.agg (mr W xs ys [.i f0, .i f1, .i f2, .i t0, .i t1, .i t2, .i sz, .i lm, .sl false 8 (List.map thS [(tE (thA (tD ts th st111 p112 q113 pd114 wt118 e115 v116 yes117) oth))]), .i ph, .i scn, .i fl, (sN os), .i brk]), .agg (mr W xs ys [.i f0, .i f1, .i f2, .i t0, .i t1, .i t2, .i sz, .i lm, .sl false 8 (List.map thS [(tE (thA ts oth))]), .i ph, .i scn, .i fl, (sN os), .i brk])]) (d := (some 91)) (sv := .t) (by kernel_rfl) (eqheap2 W xs ys f0 f1 f2 t0 t1 t2 sz lm [(tE (thA (tD ts th st111 p112 q113 pd114 wt118 e115 v116 yes117) oth))] ph scn fl os brk [(tE (thA ts oth))] (by first | omega | exact th_l1 | exact ths_one (Ths.at (by assumption) _) | exact eqt_one (by omega) (by omega) (by omega) | assumption | exact rfl) ‹_› ‹_› ‹_› ‹_› ‹_› ‹_› ‹_› ‹_› ‹_› ‹_› ‹_› (by first | omega | exact th_l1 | exact ths_one (Ths.at (by assumption) _) | exact eqt_one (by omega) (by omega) (by omega) | assumption | exact rfl) (by first | omega | exact th_l1 | exact ths_one (Ths.at (by assumption) _) | exact eqt_one (by omega) (by omega) (by omega) | assumption | exact rfl) ‹_› ‹_› ‹_› ‹_› (by omega) ‹_› (by omega) (by omega)) [(W : Int) = W, (false = true → false = true), ((m64 xs) : List SV) = (m64 xs), (false = true → false = true), ((m64 ys) : List SV) = (m64 ys), (f0 : Int) = f0, (f1 : Int) = f1, (f2 : Int) = f2, (t0 : Int) = t0, (t1 : Int) = t1, (t2 : Int) = t2, (sz : Int) = sz, (lm : Int) = lm, (false = true → false = true), ((List.map thS [(tE (thA (tD ts th st111 p112 q113 pd114 wt118 e115 v116 yes117) oth))]) : List SV) = (List.map thS [(tE (thA (tD ts th st111 p112 q113 pd114 wt118 e115 v116 yes117) oth))]), (ph : Int) = ph, (scn : Int) = scn, (fl : Int) = fl, (false = true → false = true), ((List.map (SV.int .i64) os) : List SV) = (List.map (SV.int .i64) os), (brk : Int) = brk, (W : Int) = W, (false = true → false = true), ((m64 xs) : List SV) = (m64 xs), (false = true → false = true), ((m64 ys) : List SV) = (m64 ys), (f0 : Int) = f0, (f1 : Int) = f1, (f2 : Int) = f2, (t0 : Int) = t0, (t1 : Int) = t1, (t2 : Int) = t2, (sz : Int) = sz, (lm : Int) = lm, (false = true → false = true), ((List.map thS [(tE (thA ts oth))]) : List SV) = (List.map thS [(tE (thA ts oth))]), (ph : Int) = ph, (scn : Int) = scn, (fl : Int) = fl, (false = true → false = true), ((List.map (SV.int .i64) os) : List SV) = (List.map (SV.int .i64) os), (brk : Int) = brk] (by kernel_rfl) ⟨rfl, id, rfl, id, rfl, rfl, rfl, rfl, rfl, rfl, rfl, rfl, rfl, id, rfl, rfl, rfl, rfl, id, rfl, rfl, rfl, id, rfl, id, rfl, rfl, rfl, rfl, rfl, rfl, rfl, rfl, rfl, id, rfl, rfl, rfl, rfl, id, rfl, rfl, trivial⟩ (by kernel_rfl) ?_
      refine rki [(9, .i 1), (10, .t)] 8 5 [6] [] [True, True, ((((List.map thS [(tE (thA (tD ts th st111 p112 q113 pd114 wt118 e115 v116 yes117) oth))]) : List SV).length : Nat) : Int) = 1, (1 == 1) = true, True] ⟨trivial, trivial, rfl, beq_iff_eq.2 (by omega), trivial, trivial⟩ ?_
      refine en ?_
      refine an ?_
      refine xw_ret ?_
      exact bs (.t) rfl
 ·
  refine pc (fewB_2 W xs ys f0 f1 f2 t0 t1 t2 sz lm ts ph scn fl os brk ‹_› ‹_› ‹_› ‹_› ‹_› ‹_› ‹_› ‹_› ‹_› ‹_› ‹_› ‹_› (by omega) ‹_› ‹_› ‹_› ‹_› (by omega) ‹_› ‹_›) ?_
  refine rk [] 1 2 ⟨[(8, .f), (7, .t), (6, .f), (3, .p 0), (1, .i th), (2, .i oth)], [(0, .cells (hp W xs ys f0 f1 f2 t0 t1 t2 sz lm ts ph scn fl os brk) 32)], 1⟩ [] trivial ?_
  refine en ?_
  refine an ?_
  refine xw_seq ?_
  refine rgi [] 2 [18, 7, 6, 3, 1, 2] [0] [] trivial ?_
  refine ct ?_
  refine rgi [] 2 [6, 7, 3, 1, 2] [0] [] trivial ?_
  refine xw_ret ?_
  refine an_ret ?_
  exact bs (.t) rfl

end Go.Proofs.Ytjchmajamlehmaa.X
