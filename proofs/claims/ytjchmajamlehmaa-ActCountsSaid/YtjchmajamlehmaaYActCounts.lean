/- Contracts of Go functions: what each returns, for every input that its premises name; no memory of the caller is touched. Printed by a program. -/
import Derived.Test.YtjchmajamlehmaaXn1
namespace Go.Proofs.Ytjchmajamlehmaa.X
open Go Go.RowKit
set_option linter.unusedVariables false      -- a premise may serve only to tell which way is taken
set_option linter.unusedSimpArgs false
set_option maxHeartbeats 8000000 in
theorem actCounts (W : Int) (xs ys : List Int) (f0 f1 f2 t0 t1 t2 sz lm : Int) (ts : List Th) (ph scn fl : Int) (os : List Int) (brk th : Int) (hp0 : -9223372036854775808 ≤ W ∧ W ≤ 9223372036854775807) (hp1 : U64s xs) (hp2 : U64s ys) (hp3 : -9223372036854775808 ≤ f0 ∧ f0 ≤ 9223372036854775807) (hp4 : -9223372036854775808 ≤ f1 ∧ f1 ≤ 9223372036854775807) (hp5 : -9223372036854775808 ≤ f2 ∧ f2 ≤ 9223372036854775807) (hp6 : -9223372036854775808 ≤ t0 ∧ t0 ≤ 9223372036854775807) (hp7 : -9223372036854775808 ≤ t1 ∧ t1 ≤ 9223372036854775807) (hp8 : -9223372036854775808 ≤ t2 ∧ t2 ≤ 9223372036854775807) (hp9 : -9223372036854775808 ≤ sz ∧ sz ≤ 9223372036854775807) (hp10 : -9223372036854775808 ≤ lm ∧ lm ≤ 9223372036854775807) (hp11 : Ths ts) (hp12 : (ts.length : Int) * 144 ≤ 140737488355000) (hp13 : -9223372036854775808 ≤ ph ∧ ph ≤ 9223372036854775807) (hp14 : -9223372036854775808 ≤ scn ∧ scn ≤ 9223372036854775807) (hp15 : -9223372036854775808 ≤ fl ∧ fl ≤ 9223372036854775807) (hp16 : I64s os) (hp17 : (os.length : Int) * 8 ≤ 140737488355000) (hp18 : -9223372036854775808 ≤ brk ∧ brk ≤ 9223372036854775807) (hp19 : -9223372036854775808 ≤ th ∧ th ≤ 9223372036854775807) (hp20 : Thg ts) (hp21 : (xs.length : Int) * 8 ≤ 140737488355000) (hp22 : (ys.length : Int) * 8 ≤ 140737488355000) : Pub Try.prog 5 [.agg (hp W xs ys f0 f1 f2 t0 t1 t2 sz lm ts ph scn fl os brk), .i th] (fun rv => rv = .t) := by
 refine pub_of TT_ok Try.func5 rfl (by decide) (Nat.le_of_ble_eq_true (by kernel_rfl)) (by kernel_rfl) ?_
 refine rgi [] 2 [4, 2, 1] [0] [] trivial ?_
 refine xw_seq ?_
 refine reg ?_
 refine pc (shown17 ) ?_
 refine rki [] 1 1 [5, 4, 2, 1] [0] [] trivial ?_
 refine en ?_
 refine an ?_
 refine xw_seq ?_
 refine reg ?_
 refine rki [] 1 0 [14, 5, 4, 2, 1] [0] [True] ⟨trivial, trivial⟩ ?_
 by_cases h0 : (RGT W xs ys f0 f1 f2 t0 t1 t2 sz lm ts ph scn) ∧ (W ≤ 200)
 ·
  obtain ⟨h1, h2⟩ := h0
  refine pc (fewB_1 W xs ys f0 f1 f2 t0 t1 t2 sz lm ts ph scn fl os brk ‹_› ‹_› ‹_› ‹_› ‹_› ‹_› ‹_› ‹_› ‹_› ‹_› ‹_› ‹_› (by omega) ‹_› ‹_› ‹_› ‹_› (by omega) ‹_› ‹_› ‹_›) ?_
  have h3 : 16 ≤ W ∧ W ≤ 4096 ∧ (xs.length : Int) = W ∧ (ys.length : Int) = W := ‹RGT W xs ys f0 f1 f2 t0 t1 t2 sz lm ts ph scn›.1
  have h4 : 0 ≤ f0 ∧ f0 ≤ 1 ∧ 0 ≤ f1 ∧ f1 ≤ f2 ∧ f2 = W := ‹RGT W xs ys f0 f1 f2 t0 t1 t2 sz lm ts ph scn›.2.1
  have h5 : 0 ≤ t0 ∧ t0 ≤ 1 ∧ 0 ≤ t1 ∧ t1 ≤ t2 ∧ t2 = W ∧ f0 ≠ t0 := ‹RGT W xs ys f0 f1 f2 t0 t1 t2 sz lm ts ph scn›.2.2.1
  have h6 : 0 ≤ sz ∧ sz ≤ 4096 ∧ 1 ≤ lm ∧ lm ≤ 64 := ‹RGT W xs ys f0 f1 f2 t0 t1 t2 sz lm ts ph scn›.2.2.2.1
  have h7 : Bfs ts f1 := ‹RGT W xs ys f0 f1 f2 t0 t1 t2 sz lm ts ph scn›.2.2.2.2.2.2
  refine rk [] 1 2 ⟨[(6, .t), (5, .t), (4, .f), (2, .p 0), (1, .i th)], [(0, .cells (hp W xs ys f0 f1 f2 t0 t1 t2 sz lm ts ph scn fl os brk) 32)], 1⟩ [] trivial ?_
  refine en ?_
  refine an ?_
  refine xw_seq ?_
  refine xw_seq ?_
  refine reg ?_
  refine rki [] 5 0 [20, 19, 18, 5, 4, 2, 1] [0] [True] ⟨trivial, trivial⟩ ?_
  by_cases h8 : (canB lm ph brk ts th) = false
  ·
   refine pc (acan_1 W xs ys f0 f1 f2 t0 t1 t2 sz lm ts ph scn fl os brk th ‹_› ‹_› ‹_› ‹_› ‹_› ‹_› ‹_› ‹_› ‹_› ‹_› ‹_› ‹_› (by omega) ‹_› ‹_› ‹_› ‹_› (by omega) ‹_› ‹_› ‹_›) ?_
   refine rki [] 2 6 [23, 5, 4, 2, 1] [0] [True] ⟨trivial, trivial⟩ ?_
   refine en ?_
   refine an ?_
   refine ct ?_
   refine rgi [] 2 [4, 5, 2, 1] [0] [] trivial ?_
   refine xw_ret ?_
   refine an_ret ?_
   exact bs (.t) rfl
  ·
   by_cases h9 : (canB lm ph brk ts th) = true
   ·
    refine pc (acan_2 W xs ys f0 f1 f2 t0 t1 t2 sz lm ts ph scn fl os brk th ‹_› ‹_› ‹_› ‹_› ‹_› ‹_› ‹_› ‹_› ‹_› ‹_› ‹_› ‹_› (by omega) ‹_› ‹_› ‹_› ‹_› (by omega) ‹_› ‹_› ‹_›) ?_
    have h10 : 0 ≤ th ∧ th < (ts.length : Int) := (can_is ‹_›).1
    have h11 : brk = 0 := (can_is ‹_›).2.1
    have h12 : 0 < ((Th.pd (thA ts th)).length : Int) ∨ (((Th.pd (thA ts th)).length : Int) = 0 ∧ 0 < ((Th.lf (thA ts th)).length : Int) ∧ ph ≠ 2) := can_nx ‹_›
    refine rki [] 2 6 [23, 5, 4, 2, 1] [0] [True] ⟨trivial, trivial⟩ ?_
    refine en ?_
    refine an ?_
    refine cf ?_
    refine xw_skip ?_
    refine an ?_
    refine xw_seq ?_
    refine reg ?_
    refine rki [] 2 0 [26, 25, 5, 4, 2, 1] [0] [True] ⟨trivial, trivial⟩ ?_
    refine pcall (args := [.agg (hp W xs ys f0 f1 f2 t0 t1 t2 sz lm ts ph scn fl os brk), .i th]) (args' := [.agg (hp W xs ys f0 f1 f2 t0 t1 t2 sz lm ts ph scn fl os brk), .i th]) (d := (some 27)) (by kernel_rfl) (ado W xs ys f0 f1 f2 t0 t1 t2 sz lm ts ph scn fl os brk th ‹_› ‹_› ‹_› ‹_› ‹_› ‹_› ‹_› ‹_› ‹_› ‹_› ‹_› ‹_› (by omega) ‹_› ‹_› ‹_› ‹_› (by omega) ‹_› ‹_› ‹_› ‹_› (by omega) ‹_›) [(W : Int) = W, (false = true → false = true), ((m64 xs) : List SV) = (m64 xs), (false = true → false = true), ((m64 ys) : List SV) = (m64 ys), (f0 : Int) = f0, (f1 : Int) = f1, (f2 : Int) = f2, (t0 : Int) = t0, (t1 : Int) = t1, (t2 : Int) = t2, (sz : Int) = sz, (lm : Int) = lm, (false = true → false = true), ((List.map thS ts) : List SV) = (List.map thS ts), (ph : Int) = ph, (scn : Int) = scn, (fl : Int) = fl, (false = true → false = true), ((List.map (SV.int .i64) os) : List SV) = (List.map (SV.int .i64) os), (brk : Int) = brk, (th : Int) = th] (by kernel_rfl) ⟨rfl, id, rfl, id, rfl, rfl, rfl, rfl, rfl, rfl, rfl, rfl, rfl, id, rfl, rfl, rfl, rfl, id, rfl, rfl, rfl, trivial⟩ (by kernel_rfl) ?_
    rintro _ (⟨h13, rfl⟩ | ⟨h13, h14, rfl⟩ | ⟨X113, Y114, F115, st116, p117, q118, pd119, e120, v121, yes122, wt123, h24, h25, h26, h27, rfl⟩ | ⟨X113, Y114, F115, st116, p117, q118, pd119, e120, v121, yes122, wt123, h24, h25, h26, h27, rfl⟩)
    ·
     exfalso; first | omega | (simp_all; done) | (simp_all; omega) | grind
    ·
     have h15 : Ths (tP ts th) := (ths_set ‹_› (th_pend (Ths.at ‹_› th) (thg_lg ‹_› th)))
     have h16 : ((tP ts th).length : Int) = (ts.length : Int) := len_set
     have h17 : ((Th.dn (thA (tP ts th) th)).length : Int) = ((Th.dn (thA ts th)).length : Int) := (by rw [th_set (by omega) (by omega)]; try first | assumption | (simp; done) | (simp; omega))
     have h18 : ((Th.lf (thA (tP ts th) th)).length : Int) = ((Th.lf (thA ts th)).length : Int) := (by rw [th_set (by omega) (by omega)]; try first | assumption | (simp; done) | (simp; omega))
     have h19 : ((Th.lg (thA (tP ts th) th)).length : Int) = ((Th.lg (thA ts th)).length : Int) + 1 := (by rw [th_set (by omega) (by omega)]; try first | assumption | (simp; done) | (simp; omega))
     have h20 : ((Th.pd (thA (tP ts th) th)).length : Int) = 0 := (by rw [th_set (by omega) (by omega)]; try first | assumption | (simp; done) | (simp; omega))
     refine rk [] 2 3 ⟨[(7, .p 1), (5, .t), (4, .f), (2, .p 0), (1, .i th)], [(1, .cells (hp W xs ys f0 f1 f2 t0 t1 t2 sz lm (tP ts th) ph scn fl os brk) 32), (0, .cells (hp W xs ys f0 f1 f2 t0 t1 t2 sz lm ts ph scn fl os brk) 32)], 2⟩ [True] ⟨trivial, trivial⟩ ?_
     refine en ?_
     refine an ?_
     refine xw_seq ?_
     refine rgi [(2, .i (((tP ts th)).length : Int)), (5, .i ((ts).length : Int)), (6, .f)] 7 [34, 7, 5, 4, 2, 1] [1, 0] [True, ((((List.map thS (tP ts th))).length : Nat) : Int) = (((tP ts th)).length : Int), True, ((((List.map thS ts)).length : Nat) : Int) = ((ts).length : Int), ((((tP ts th)).length : Int) != ((ts).length : Int)) = false] ⟨trivial, (by simp), trivial, (by simp), bne_eq_false_iff_eq.2 (by omega), trivial⟩ ?_
     refine cf ?_
     refine xw_skip ?_
     refine an ?_
     refine xw_seq ?_
     refine reg ?_
     refine rki [(3, .agg (tc (thA ts th)))] 4 0 [38, 7, 5, 4, 2, 1] [1, 0] [True, (0 : Int) ≤ th ∧ th < ((((List.map thS ts)).length : Nat) : Int) ∧ ((List.map thS ts))[(th : Int).toNat]? = some (.agg (tc (thA ts th)))] ⟨trivial, (ix_th (by omega) (by first | omega | (simp only [len_st]; omega) | (simp; done) | (simp; omega) | (simp [len_st, len_stx, len_sty, len_zx, len_zy]; omega))), trivial⟩ ?_
     have h21 : U64s (Th.st (thA ts th)) := (Ths.at (by first | assumption | exact U64s.st (by assumption) _ (by omega)) _).1
     have h22 : ((Th.st (thA ts th)).length : Int) * 8 ≤ 140737488355000 := (Ths.at (by first | assumption | exact U64s.st (by assumption) _ (by omega)) _).2.1
     have h23 : (-9223372036854775808 ≤ (Th.b0 (thA ts th)) ∧ (Th.b0 (thA ts th)) ≤ 9223372036854775807) := (Ths.at (by first | assumption | exact U64s.st (by assumption) _ (by omega)) _).2.2.1
     have h24 : (-9223372036854775808 ≤ (Th.b1 (thA ts th)) ∧ (Th.b1 (thA ts th)) ≤ 9223372036854775807) := (Ths.at (by first | assumption | exact U64s.st (by assumption) _ (by omega)) _).2.2.2.1
     have h25 : Ents (Th.lg (thA ts th)) := (Ths.at (by first | assumption | exact U64s.st (by assumption) _ (by omega)) _).2.2.2.2.1
     have h26 : ((Th.lg (thA ts th)).length : Int) * 16 ≤ 140737488355000 := (Ths.at (by first | assumption | exact U64s.st (by assumption) _ (by omega)) _).2.2.2.2.2.1
     have h27 : Ops (Th.lf (thA ts th)) := (Ths.at (by first | assumption | exact U64s.st (by assumption) _ (by omega)) _).2.2.2.2.2.2.1
     have h28 : ((Th.lf (thA ts th)).length : Int) * 64 ≤ 140737488355000 := (Ths.at (by first | assumption | exact U64s.st (by assumption) _ (by omega)) _).2.2.2.2.2.2.2.1
     have h29 : Ents (Th.pd (thA ts th)) := (Ths.at (by first | assumption | exact U64s.st (by assumption) _ (by omega)) _).2.2.2.2.2.2.2.2.1
     have h30 : ((Th.pd (thA ts th)).length : Int) * 16 ≤ 140737488355000 := (Ths.at (by first | assumption | exact U64s.st (by assumption) _ (by omega)) _).2.2.2.2.2.2.2.2.2.1
     have h31 : Anss (Th.dn (thA ts th)) := (Ths.at (by first | assumption | exact U64s.st (by assumption) _ (by omega)) _).2.2.2.2.2.2.2.2.2.2.1
     have h32 : ((Th.dn (thA ts th)).length : Int) * 24 ≤ 140737488355000 := (Ths.at (by first | assumption | exact U64s.st (by assumption) _ (by omega)) _).2.2.2.2.2.2.2.2.2.2.2
     refine rki [] 3 4 [8, 7, 5, 4, 2, 1] [2, 1, 0] [True, True] ⟨trivial, trivial, trivial⟩ ?_
     refine en ?_
     refine an ?_
     refine xw_seq ?_
     refine reg ?_
     refine rk [(3, .agg (tc (thA (tP ts th) th)))] 4 0 ⟨[(43, .elt (.agg (tc (thA (tP ts th) th)))), (8, .p 2), (7, .p 1), (5, .t), (4, .f), (2, .p 0), (1, .i th)], [(2, .cells (tc (thA ts th)) 44), (1, .cells (hp W xs ys f0 f1 f2 t0 t1 t2 sz lm (tP ts th) ph scn fl os brk) 32), (0, .cells (hp W xs ys f0 f1 f2 t0 t1 t2 sz lm ts ph scn fl os brk) 32)], 3⟩ [True, (0 : Int) ≤ th ∧ th < ((((List.map thS (tP ts th))).length : Nat) : Int) ∧ ((List.map thS (tP ts th)))[(th : Int).toNat]? = some (.agg (tc (thA (tP ts th) th)))] ⟨trivial, (ix_th (by omega) (by first | omega | (simp only [len_st]; omega) | (simp; done) | (simp; omega) | (simp [len_st, len_stx, len_sty, len_zx, len_zy]; omega))), trivial⟩ ?_
     have h33 : U64s (Th.st (thA (tP ts th) th)) := (Ths.at (by first | assumption | exact U64s.st (by assumption) _ (by omega)) _).1
     have h34 : ((Th.st (thA (tP ts th) th)).length : Int) * 8 ≤ 140737488355000 := (Ths.at (by first | assumption | exact U64s.st (by assumption) _ (by omega)) _).2.1
     have h35 : (-9223372036854775808 ≤ (Th.b0 (thA (tP ts th) th)) ∧ (Th.b0 (thA (tP ts th) th)) ≤ 9223372036854775807) := (Ths.at (by first | assumption | exact U64s.st (by assumption) _ (by omega)) _).2.2.1
     have h36 : (-9223372036854775808 ≤ (Th.b1 (thA (tP ts th) th)) ∧ (Th.b1 (thA (tP ts th) th)) ≤ 9223372036854775807) := (Ths.at (by first | assumption | exact U64s.st (by assumption) _ (by omega)) _).2.2.2.1
     have h37 : Ents (Th.lg (thA (tP ts th) th)) := (Ths.at (by first | assumption | exact U64s.st (by assumption) _ (by omega)) _).2.2.2.2.1
     have h38 : ((Th.lg (thA (tP ts th) th)).length : Int) * 16 ≤ 140737488355000 := (Ths.at (by first | assumption | exact U64s.st (by assumption) _ (by omega)) _).2.2.2.2.2.1
     have h39 : Ops (Th.lf (thA (tP ts th) th)) := (Ths.at (by first | assumption | exact U64s.st (by assumption) _ (by omega)) _).2.2.2.2.2.2.1
     have h40 : ((Th.lf (thA (tP ts th) th)).length : Int) * 64 ≤ 140737488355000 := (Ths.at (by first | assumption | exact U64s.st (by assumption) _ (by omega)) _).2.2.2.2.2.2.2.1
     have h41 : Ents (Th.pd (thA (tP ts th) th)) := (Ths.at (by first | assumption | exact U64s.st (by assumption) _ (by omega)) _).2.2.2.2.2.2.2.2.1
     have h42 : ((Th.pd (thA (tP ts th) th)).length : Int) * 16 ≤ 140737488355000 := (Ths.at (by first | assumption | exact U64s.st (by assumption) _ (by omega)) _).2.2.2.2.2.2.2.2.2.1
     have h43 : Anss (Th.dn (thA (tP ts th) th)) := (Ths.at (by first | assumption | exact U64s.st (by assumption) _ (by omega)) _).2.2.2.2.2.2.2.2.2.2.1
     have h44 : ((Th.dn (thA (tP ts th) th)).length : Int) * 24 ≤ 140737488355000 := (Ths.at (by first | assumption | exact U64s.st (by assumption) _ (by omega)) _).2.2.2.2.2.2.2.2.2.2.2
     refine rki [] 3 4 [9, 8, 7, 5, 4, 2, 1] [3, 2, 1, 0] [True, True] ⟨trivial, trivial, trivial⟩ ?_
     refine en ?_
     refine an ?_
     refine rgi [(2, .i (((Th.dn (thA (tP ts th) th))).length : Int)), (5, .i (((Th.dn (thA ts th))).length : Int)), (6, .i ((((Th.dn (thA (tP ts th) th))).length : Int) - (((Th.dn (thA ts th))).length : Int)))] 8 [10, 9, 8, 7, 5, 4, 2, 1] [3, 2, 1, 0] [True, ((((List.map ansS (Th.dn (thA (tP ts th) th)))).length : Nat) : Int) = (((Th.dn (thA (tP ts th) th))).length : Int), True, ((((List.map ansS (Th.dn (thA ts th)))).length : Nat) : Int) = (((Th.dn (thA ts th))).length : Int), IntKind.i64.wrap ((((Th.dn (thA (tP ts th) th))).length : Int) - (((Th.dn (thA ts th))).length : Int)) = ((((Th.dn (thA (tP ts th) th))).length : Int) - (((Th.dn (thA ts th))).length : Int))] ⟨trivial, (by simp), trivial, (by simp), i64_eq (by omega) (by omega), trivial⟩ ?_
     refine rgi [(2, .i (((Th.lf (thA ts th))).length : Int)), (5, .i (((Th.lf (thA (tP ts th) th))).length : Int)), (6, .i ((((Th.lf (thA ts th))).length : Int) - (((Th.lf (thA (tP ts th) th))).length : Int)))] 8 [11, 10, 9, 8, 7, 5, 4, 2, 1] [3, 2, 1, 0] [True, ((((List.map opS (Th.lf (thA ts th)))).length : Nat) : Int) = (((Th.lf (thA ts th))).length : Int), True, ((((List.map opS (Th.lf (thA (tP ts th) th)))).length : Nat) : Int) = (((Th.lf (thA (tP ts th) th))).length : Int), IntKind.i64.wrap ((((Th.lf (thA ts th))).length : Int) - (((Th.lf (thA (tP ts th) th))).length : Int)) = ((((Th.lf (thA ts th))).length : Int) - (((Th.lf (thA (tP ts th) th))).length : Int))] ⟨trivial, (by simp), trivial, (by simp), i64_eq (by omega) (by omega), trivial⟩ ?_
     refine rg [(2, .i ((os).length : Int)), (5, .i ((os).length : Int)), (6, .i (((os).length : Int) - ((os).length : Int)))] 8 ⟨[(12, .i (((os).length : Int) - ((os).length : Int))), (11, .i ((((Th.lf (thA ts th))).length : Int) - (((Th.lf (thA (tP ts th) th))).length : Int))), (10, .i ((((Th.dn (thA (tP ts th) th))).length : Int) - (((Th.dn (thA ts th))).length : Int))), (9, .p 3), (8, .p 2), (7, .p 1), (5, .t), (4, .f), (1, .i th)], [(3, .cells (tc (thA (tP ts th) th)) 44), (2, .cells (tc (thA ts th)) 44), (1, .cells (hp W xs ys f0 f1 f2 t0 t1 t2 sz lm (tP ts th) ph scn fl os brk) 32)], 4⟩ [True, ((((List.map (SV.int .i64) os)).length : Nat) : Int) = ((os).length : Int), True, ((((List.map (SV.int .i64) os)).length : Nat) : Int) = ((os).length : Int), IntKind.i64.wrap (((os).length : Int) - ((os).length : Int)) = (((os).length : Int) - ((os).length : Int))] ⟨trivial, (by simp), trivial, (by simp), i64_eq (by omega) (by omega), trivial⟩ ?_
     refine xw_seq ?_
     refine rgi [(2, .i (((Th.pd (thA ts th))).length : Int)), (3, .t)] 4 [69, 12, 11, 10, 9, 8, 7, 5, 4, 1] [3, 2, 1] [True, ((((List.map entS (Th.pd (thA ts th)))).length : Nat) : Int) = (((Th.pd (thA ts th))).length : Int), (decide (0 < (((Th.pd (thA ts th))).length : Int))) = true] ⟨trivial, (by simp), decide_eq_true (by omega), trivial⟩ ?_
     refine ct ?_
     refine rgi [(3, .t), (7, .t), (11, .t), (16, .i (((Th.lg (thA (tP ts th) th))).length : Int)), (19, .i (((Th.lg (thA ts th))).length : Int)), (20, .i ((((Th.lg (thA ts th))).length : Int) + 1)), (21, .t), (26, .i (((Th.pd (thA (tP ts th) th))).length : Int)), (27, .t)] 30 [4, 12, 11, 10, 9, 8, 7, 5, 1] [3, 2, 1] [(((((Th.dn (thA (tP ts th) th))).length : Int) - (((Th.dn (thA ts th))).length : Int)) == 0) = true, True, (((((Th.lf (thA ts th))).length : Int) - (((Th.lf (thA (tP ts th) th))).length : Int)) == 0) = true, True, ((((os).length : Int) - ((os).length : Int)) == 0) = true, True, True, ((((List.map entS (Th.lg (thA (tP ts th) th)))).length : Nat) : Int) = (((Th.lg (thA (tP ts th) th))).length : Int), True, ((((List.map entS (Th.lg (thA ts th)))).length : Nat) : Int) = (((Th.lg (thA ts th))).length : Int), IntKind.i64.wrap ((((Th.lg (thA ts th))).length : Int) + 1) = ((((Th.lg (thA ts th))).length : Int) + 1), ((((Th.lg (thA (tP ts th) th))).length : Int) == ((((Th.lg (thA ts th))).length : Int) + 1)) = true, True, True, ((((List.map entS (Th.pd (thA (tP ts th) th)))).length : Nat) : Int) = (((Th.pd (thA (tP ts th) th))).length : Int), ((((Th.pd (thA (tP ts th) th))).length : Int) == 0) = true, True] ⟨beq_iff_eq.2 (by omega), trivial, beq_iff_eq.2 (by omega), trivial, beq_iff_eq.2 (by omega), trivial, trivial, (by simp), trivial, (by simp), i64_eq (by omega) (by omega), beq_iff_eq.2 (by omega), trivial, trivial, (by simp), beq_iff_eq.2 (by omega), trivial, trivial⟩ ?_
     refine xw_ret ?_
     refine an_ret ?_
     exact bs (.t) rfl
    ·
     have h28 : (X113.length : Int) = W := h24.1.1
     have h29 : (Y114.length : Int) = W := h24.1.2.1
     have h30 : U64s X113 := h24.1.2.2.1
     have h31 : U64s Y114 := h24.1.2.2.2
     have h32 : f1 ≤ F115 ∧ F115 ≤ f2 := h24.2.1
     have h33 : U64s st116 := h24.2.2.1.1
     have h34 : (st116.length : Int) * 8 ≤ 140737488355000 := h24.2.2.1.2
     have h35 : (p117 = 0 ∧ q118 = 0) ∨ (0 ≤ p117 ∧ p117 ≤ q118 ∧ q118 ≤ F115) := h24.2.2.2.1
     have h36 : Ents pd119 := h24.2.2.2.2.1.1
     have h37 : (pd119.length : Int) ≤ 1 := h24.2.2.2.2.1.2
     have h38 : 0 ≤ e120 ∧ e120 ≤ 100 := h24.2.2.2.2.2.1.1
     have h39 : 0 ≤ v121 ∧ v121 ≤ 18446744073709551615 := h24.2.2.2.2.2.1.2
     have h40 : Ths (tW ts th st116 p117 q118 pd119 wt123) := (ths_set ‹_› (th_work (Ths.at ‹_› th) ‹_› (by omega) (by omega) (by omega) ‹_› (by omega)))
     have h41 : ((tW ts th st116 p117 q118 pd119 wt123).length : Int) = (ts.length : Int) := len_set
     have h42 : ((Th.dn (thA (tW ts th st116 p117 q118 pd119 wt123) th)).length : Int) = ((Th.dn (thA ts th)).length : Int) := (by rw [th_set (by omega) (by omega)]; try first | assumption | (simp; done) | (simp; omega))
     have h43 : ((Th.lf (thA (tW ts th st116 p117 q118 pd119 wt123) th)).length : Int) = ((Th.lf (thA ts th)).length : Int) := (by rw [th_set (by omega) (by omega)]; try first | assumption | (simp; done) | (simp; omega))
     have h44 : ((Th.lg (thA (tW ts th st116 p117 q118 pd119 wt123) th)).length : Int) = ((Th.lg (thA ts th)).length : Int) := (by rw [th_set (by omega) (by omega)]; try first | assumption | (simp; done) | (simp; omega))
     have h45 : ((Th.pd (thA (tW ts th st116 p117 q118 pd119 wt123) th)).length : Int) = ((pd119).length : Int) := (by rw [th_set (by omega) (by omega)]; try first | assumption | (simp; done) | (simp; omega))
     have h46 : (Th.wt (thA (tW ts th st116 p117 q118 pd119 wt123) th)) = true := (by rw [th_set (by omega) (by omega)]; try first | assumption | (simp; done) | (simp; omega))
     refine rk [] 2 3 ⟨[(7, .p 1), (5, .t), (4, .f), (2, .p 0), (1, .i th)], [(1, .cells (hp W X113 Y114 f0 F115 f2 t0 t1 t2 sz lm (tW ts th st116 p117 q118 pd119 wt123) ph scn fl os brk) 32), (0, .cells (hp W xs ys f0 f1 f2 t0 t1 t2 sz lm ts ph scn fl os brk) 32)], 2⟩ [True] ⟨trivial, trivial⟩ ?_
     refine en ?_
     refine an ?_
     refine xw_seq ?_
     refine rgi [(2, .i (((tW ts th st116 p117 q118 pd119 wt123)).length : Int)), (5, .i ((ts).length : Int)), (6, .f)] 7 [34, 7, 5, 4, 2, 1] [1, 0] [True, ((((List.map thS (tW ts th st116 p117 q118 pd119 wt123))).length : Nat) : Int) = (((tW ts th st116 p117 q118 pd119 wt123)).length : Int), True, ((((List.map thS ts)).length : Nat) : Int) = ((ts).length : Int), ((((tW ts th st116 p117 q118 pd119 wt123)).length : Int) != ((ts).length : Int)) = false] ⟨trivial, (by simp), trivial, (by simp), bne_eq_false_iff_eq.2 (by omega), trivial⟩ ?_
     refine cf ?_
     refine xw_skip ?_
     refine an ?_
     refine xw_seq ?_
     refine reg ?_
     refine rki [(3, .agg (tc (thA ts th)))] 4 0 [38, 7, 5, 4, 2, 1] [1, 0] [True, (0 : Int) ≤ th ∧ th < ((((List.map thS ts)).length : Nat) : Int) ∧ ((List.map thS ts))[(th : Int).toNat]? = some (.agg (tc (thA ts th)))] ⟨trivial, (ix_th (by omega) (by first | omega | (simp only [len_st]; omega) | (simp; done) | (simp; omega) | (simp [len_st, len_stx, len_sty, len_zx, len_zy]; omega))), trivial⟩ ?_
     have h47 : U64s (Th.st (thA ts th)) := (Ths.at (by first | assumption | exact U64s.st (by assumption) _ (by omega)) _).1
     have h48 : ((Th.st (thA ts th)).length : Int) * 8 ≤ 140737488355000 := (Ths.at (by first | assumption | exact U64s.st (by assumption) _ (by omega)) _).2.1
     have h49 : (-9223372036854775808 ≤ (Th.b0 (thA ts th)) ∧ (Th.b0 (thA ts th)) ≤ 9223372036854775807) := (Ths.at (by first | assumption | exact U64s.st (by assumption) _ (by omega)) _).2.2.1
     have h50 : (-9223372036854775808 ≤ (Th.b1 (thA ts th)) ∧ (Th.b1 (thA ts th)) ≤ 9223372036854775807) := (Ths.at (by first | assumption | exact U64s.st (by assumption) _ (by omega)) _).2.2.2.1
     have h51 : Ents (Th.lg (thA ts th)) := (Ths.at (by first | assumption | exact U64s.st (by assumption) _ (by omega)) _).2.2.2.2.1
     have h52 : ((Th.lg (thA ts th)).length : Int) * 16 ≤ 140737488355000 := (Ths.at (by first | assumption | exact U64s.st (by assumption) _ (by omega)) _).2.2.2.2.2.1
     have h53 : Ops (Th.lf (thA ts th)) := (Ths.at (by first | assumption | exact U64s.st (by assumption) _ (by omega)) _).2.2.2.2.2.2.1
     have h54 : ((Th.lf (thA ts th)).length : Int) * 64 ≤ 140737488355000 := (Ths.at (by first | assumption | exact U64s.st (by assumption) _ (by omega)) _).2.2.2.2.2.2.2.1
     have h55 : Ents (Th.pd (thA ts th)) := (Ths.at (by first | assumption | exact U64s.st (by assumption) _ (by omega)) _).2.2.2.2.2.2.2.2.1
     have h56 : ((Th.pd (thA ts th)).length : Int) * 16 ≤ 140737488355000 := (Ths.at (by first | assumption | exact U64s.st (by assumption) _ (by omega)) _).2.2.2.2.2.2.2.2.2.1
     have h57 : Anss (Th.dn (thA ts th)) := (Ths.at (by first | assumption | exact U64s.st (by assumption) _ (by omega)) _).2.2.2.2.2.2.2.2.2.2.1
     have h58 : ((Th.dn (thA ts th)).length : Int) * 24 ≤ 140737488355000 := (Ths.at (by first | assumption | exact U64s.st (by assumption) _ (by omega)) _).2.2.2.2.2.2.2.2.2.2.2
     refine rki [] 3 4 [8, 7, 5, 4, 2, 1] [2, 1, 0] [True, True] ⟨trivial, trivial, trivial⟩ ?_
     refine en ?_
     refine an ?_
     refine xw_seq ?_
     refine reg ?_
     refine rk [(3, .agg (tc (thA (tW ts th st116 p117 q118 pd119 wt123) th)))] 4 0 ⟨[(43, .elt (.agg (tc (thA (tW ts th st116 p117 q118 pd119 wt123) th)))), (8, .p 2), (7, .p 1), (5, .t), (4, .f), (2, .p 0), (1, .i th)], [(2, .cells (tc (thA ts th)) 44), (1, .cells (hp W X113 Y114 f0 F115 f2 t0 t1 t2 sz lm (tW ts th st116 p117 q118 pd119 wt123) ph scn fl os brk) 32), (0, .cells (hp W xs ys f0 f1 f2 t0 t1 t2 sz lm ts ph scn fl os brk) 32)], 3⟩ [True, (0 : Int) ≤ th ∧ th < ((((List.map thS (tW ts th st116 p117 q118 pd119 wt123))).length : Nat) : Int) ∧ ((List.map thS (tW ts th st116 p117 q118 pd119 wt123)))[(th : Int).toNat]? = some (.agg (tc (thA (tW ts th st116 p117 q118 pd119 wt123) th)))] ⟨trivial, (ix_th (by omega) (by first | omega | (simp only [len_st]; omega) | (simp; done) | (simp; omega) | (simp [len_st, len_stx, len_sty, len_zx, len_zy]; omega))), trivial⟩ ?_
     have h59 : U64s (Th.st (thA (tW ts th st116 p117 q118 pd119 wt123) th)) := (Ths.at (by first | assumption | exact U64s.st (by assumption) _ (by omega)) _).1
     have h60 : ((Th.st (thA (tW ts th st116 p117 q118 pd119 wt123) th)).length : Int) * 8 ≤ 140737488355000 := (Ths.at (by first | assumption | exact U64s.st (by assumption) _ (by omega)) _).2.1
     have h61 : (-9223372036854775808 ≤ (Th.b0 (thA (tW ts th st116 p117 q118 pd119 wt123) th)) ∧ (Th.b0 (thA (tW ts th st116 p117 q118 pd119 wt123) th)) ≤ 9223372036854775807) := (Ths.at (by first | assumption | exact U64s.st (by assumption) _ (by omega)) _).2.2.1
     have h62 : (-9223372036854775808 ≤ (Th.b1 (thA (tW ts th st116 p117 q118 pd119 wt123) th)) ∧ (Th.b1 (thA (tW ts th st116 p117 q118 pd119 wt123) th)) ≤ 9223372036854775807) := (Ths.at (by first | assumption | exact U64s.st (by assumption) _ (by omega)) _).2.2.2.1
     have h63 : Ents (Th.lg (thA (tW ts th st116 p117 q118 pd119 wt123) th)) := (Ths.at (by first | assumption | exact U64s.st (by assumption) _ (by omega)) _).2.2.2.2.1
     have h64 : ((Th.lg (thA (tW ts th st116 p117 q118 pd119 wt123) th)).length : Int) * 16 ≤ 140737488355000 := (Ths.at (by first | assumption | exact U64s.st (by assumption) _ (by omega)) _).2.2.2.2.2.1
     have h65 : Ops (Th.lf (thA (tW ts th st116 p117 q118 pd119 wt123) th)) := (Ths.at (by first | assumption | exact U64s.st (by assumption) _ (by omega)) _).2.2.2.2.2.2.1
     have h66 : ((Th.lf (thA (tW ts th st116 p117 q118 pd119 wt123) th)).length : Int) * 64 ≤ 140737488355000 := (Ths.at (by first | assumption | exact U64s.st (by assumption) _ (by omega)) _).2.2.2.2.2.2.2.1
     have h67 : Ents (Th.pd (thA (tW ts th st116 p117 q118 pd119 wt123) th)) := (Ths.at (by first | assumption | exact U64s.st (by assumption) _ (by omega)) _).2.2.2.2.2.2.2.2.1
     have h68 : ((Th.pd (thA (tW ts th st116 p117 q118 pd119 wt123) th)).length : Int) * 16 ≤ 140737488355000 := (Ths.at (by first | assumption | exact U64s.st (by assumption) _ (by omega)) _).2.2.2.2.2.2.2.2.2.1
     have h69 : Anss (Th.dn (thA (tW ts th st116 p117 q118 pd119 wt123) th)) := (Ths.at (by first | assumption | exact U64s.st (by assumption) _ (by omega)) _).2.2.2.2.2.2.2.2.2.2.1
     have h70 : ((Th.dn (thA (tW ts th st116 p117 q118 pd119 wt123) th)).length : Int) * 24 ≤ 140737488355000 := (Ths.at (by first | assumption | exact U64s.st (by assumption) _ (by omega)) _).2.2.2.2.2.2.2.2.2.2.2
     refine rki [] 3 4 [9, 8, 7, 5, 4, 2, 1] [3, 2, 1, 0] [True, True] ⟨trivial, trivial, trivial⟩ ?_
     refine en ?_
     refine an ?_
     refine rgi [(2, .i (((Th.dn (thA (tW ts th st116 p117 q118 pd119 wt123) th))).length : Int)), (5, .i (((Th.dn (thA ts th))).length : Int)), (6, .i ((((Th.dn (thA (tW ts th st116 p117 q118 pd119 wt123) th))).length : Int) - (((Th.dn (thA ts th))).length : Int)))] 8 [10, 9, 8, 7, 5, 4, 2, 1] [3, 2, 1, 0] [True, ((((List.map ansS (Th.dn (thA (tW ts th st116 p117 q118 pd119 wt123) th)))).length : Nat) : Int) = (((Th.dn (thA (tW ts th st116 p117 q118 pd119 wt123) th))).length : Int), True, ((((List.map ansS (Th.dn (thA ts th)))).length : Nat) : Int) = (((Th.dn (thA ts th))).length : Int), IntKind.i64.wrap ((((Th.dn (thA (tW ts th st116 p117 q118 pd119 wt123) th))).length : Int) - (((Th.dn (thA ts th))).length : Int)) = ((((Th.dn (thA (tW ts th st116 p117 q118 pd119 wt123) th))).length : Int) - (((Th.dn (thA ts th))).length : Int))] ⟨trivial, (by simp), trivial, (by simp), i64_eq (by omega) (by omega), trivial⟩ ?_
     refine rgi [(2, .i (((Th.lf (thA ts th))).length : Int)), (5, .i (((Th.lf (thA (tW ts th st116 p117 q118 pd119 wt123) th))).length : Int)), (6, .i ((((Th.lf (thA ts th))).length : Int) - (((Th.lf (thA (tW ts th st116 p117 q118 pd119 wt123) th))).length : Int)))] 8 [11, 10, 9, 8, 7, 5, 4, 2, 1] [3, 2, 1, 0] [True, ((((List.map opS (Th.lf (thA ts th)))).length : Nat) : Int) = (((Th.lf (thA ts th))).length : Int), True, ((((List.map opS (Th.lf (thA (tW ts th st116 p117 q118 pd119 wt123) th)))).length : Nat) : Int) = (((Th.lf (thA (tW ts th st116 p117 q118 pd119 wt123) th))).length : Int), IntKind.i64.wrap ((((Th.lf (thA ts th))).length : Int) - (((Th.lf (thA (tW ts th st116 p117 q118 pd119 wt123) th))).length : Int)) = ((((Th.lf (thA ts th))).length : Int) - (((Th.lf (thA (tW ts th st116 p117 q118 pd119 wt123) th))).length : Int))] ⟨trivial, (by simp), trivial, (by simp), i64_eq (by omega) (by omega), trivial⟩ ?_
     refine rg [(2, .i ((os).length : Int)), (5, .i ((os).length : Int)), (6, .i (((os).length : Int) - ((os).length : Int)))] 8 ⟨[(12, .i (((os).length : Int) - ((os).length : Int))), (11, .i ((((Th.lf (thA ts th))).length : Int) - (((Th.lf (thA (tW ts th st116 p117 q118 pd119 wt123) th))).length : Int))), (10, .i ((((Th.dn (thA (tW ts th st116 p117 q118 pd119 wt123) th))).length : Int) - (((Th.dn (thA ts th))).length : Int))), (9, .p 3), (8, .p 2), (7, .p 1), (5, .t), (4, .f), (1, .i th)], [(3, .cells (tc (thA (tW ts th st116 p117 q118 pd119 wt123) th)) 44), (2, .cells (tc (thA ts th)) 44), (1, .cells (hp W X113 Y114 f0 F115 f2 t0 t1 t2 sz lm (tW ts th st116 p117 q118 pd119 wt123) ph scn fl os brk) 32)], 4⟩ [True, ((((List.map (SV.int .i64) os)).length : Nat) : Int) = ((os).length : Int), True, ((((List.map (SV.int .i64) os)).length : Nat) : Int) = ((os).length : Int), IntKind.i64.wrap (((os).length : Int) - ((os).length : Int)) = (((os).length : Int) - ((os).length : Int))] ⟨trivial, (by simp), trivial, (by simp), i64_eq (by omega) (by omega), trivial⟩ ?_
     refine xw_seq ?_
     refine rgi [(2, .i (((Th.pd (thA ts th))).length : Int)), (3, .f)] 4 [69, 12, 11, 10, 9, 8, 7, 5, 4, 1] [3, 2, 1] [True, ((((List.map entS (Th.pd (thA ts th)))).length : Nat) : Int) = (((Th.pd (thA ts th))).length : Int), (decide (0 < (((Th.pd (thA ts th))).length : Int))) = false] ⟨trivial, (by simp), decide_eq_false (by omega), trivial⟩ ?_
     refine cf ?_
     refine xw_skip ?_
     refine an ?_
     refine xw_seq ?_
     refine reg ?_
     refine rki [(4, .t), (9, .t), (14, .i (((Th.lg (thA (tW ts th st116 p117 q118 pd119 wt123) th))).length : Int)), (17, .i (((Th.lg (thA ts th))).length : Int)), (18, .t), (22, .f), (30, .t)] 38 0 [136, 12, 7, 4, 1] [1] [(((((Th.dn (thA (tW ts th st116 p117 q118 pd119 wt123) th))).length : Int) - (((Th.dn (thA ts th))).length : Int)) == ((((Th.lf (thA ts th))).length : Int) - (((Th.lf (thA (tW ts th st116 p117 q118 pd119 wt123) th))).length : Int))) = true, True, (((((Th.dn (thA (tW ts th st116 p117 q118 pd119 wt123) th))).length : Int) - (((Th.dn (thA ts th))).length : Int)) == (((os).length : Int) - ((os).length : Int))) = true, True, True, ((((List.map entS (Th.lg (thA (tW ts th st116 p117 q118 pd119 wt123) th)))).length : Nat) : Int) = (((Th.lg (thA (tW ts th st116 p117 q118 pd119 wt123) th))).length : Int), True, ((((List.map entS (Th.lg (thA ts th)))).length : Nat) : Int) = (((Th.lg (thA ts th))).length : Int), ((((Th.lg (thA (tW ts th st116 p117 q118 pd119 wt123) th))).length : Int) == (((Th.lg (thA ts th))).length : Int)) = true, True, (((((Th.dn (thA (tW ts th st116 p117 q118 pd119 wt123) th))).length : Int) - (((Th.dn (thA ts th))).length : Int)) == 1) = false, True, (((((Th.dn (thA (tW ts th st116 p117 q118 pd119 wt123) th))).length : Int) - (((Th.dn (thA ts th))).length : Int)) == 0) = true, True, True, True, True] ⟨beq_iff_eq.2 (by omega), trivial, beq_iff_eq.2 (by omega), trivial, trivial, (by simp), trivial, (by simp), beq_iff_eq.2 (by omega), trivial, beq_eq_false_iff_ne.2 (by omega), trivial, beq_iff_eq.2 (by omega), trivial, trivial, trivial, trivial, trivial⟩ ?_
     refine splitr 136 (x := (Th.wt (thA (tW ts th st116 p117 q118 pd119 wt123) th))) (by kernel_rfl) (fun h71 => ?_) (fun h71 => ?_)
     ·
      replace h71 : Th.wt (thA (tW ts th st116 p117 q118 pd119 wt123) th) = true := h71
      refine rki [(39, .t)] 16 38 [4] [] [((((os).length : Int) - ((os).length : Int)) == 0) = true, True, True] ⟨beq_iff_eq.2 (by omega), trivial, trivial, trivial⟩ ?_
      refine en ?_
      refine an ?_
      refine xw_ret ?_
      exact bs (.t) rfl
     ·
      replace h71 : Th.wt (thA (tW ts th st116 p117 q118 pd119 wt123) th) = false := h71
      exfalso; first | omega | (simp_all; done) | (simp_all; omega) | grind
    ·
     have h28 : (X113.length : Int) = W := h24.1.1
     have h29 : (Y114.length : Int) = W := h24.1.2.1
     have h30 : U64s X113 := h24.1.2.2.1
     have h31 : U64s Y114 := h24.1.2.2.2
     have h32 : f1 ≤ F115 ∧ F115 ≤ f2 := h24.2.1
     have h33 : U64s st116 := h24.2.2.1.1
     have h34 : (st116.length : Int) * 8 ≤ 140737488355000 := h24.2.2.1.2
     have h35 : (p117 = 0 ∧ q118 = 0) ∨ (0 ≤ p117 ∧ p117 ≤ q118 ∧ q118 ≤ F115) := h24.2.2.2.1
     have h36 : Ents pd119 := h24.2.2.2.2.1.1
     have h37 : (pd119.length : Int) ≤ 1 := h24.2.2.2.2.1.2
     have h38 : 0 ≤ e120 ∧ e120 ≤ 100 := h24.2.2.2.2.2.1.1
     have h39 : 0 ≤ v121 ∧ v121 ≤ 18446744073709551615 := h24.2.2.2.2.2.1.2
     have h40 : Ths (tD ts th st116 p117 q118 pd119 wt123 e120 v121 yes122) := (ths_set ‹_› (th_done (Ths.at ‹_› th) ‹_› (by omega) (by omega) (by omega) ‹_› (by omega) (by omega) (by omega) (thg_at ‹_› th)))
     have h41 : ((tD ts th st116 p117 q118 pd119 wt123 e120 v121 yes122).length : Int) = (ts.length : Int) := len_set
     have h42 : ((Th.dn (thA (tD ts th st116 p117 q118 pd119 wt123 e120 v121 yes122) th)).length : Int) = ((Th.dn (thA ts th)).length : Int) + 1 := (by rw [th_set (by omega) (by omega)]; try first | assumption | (simp; done) | (simp; omega))
     have h43 : ((Th.lf (thA (tD ts th st116 p117 q118 pd119 wt123 e120 v121 yes122) th)).length : Int) = ((Th.lf (thA ts th)).length : Int) - 1 := (by rw [th_set (by omega) (by omega)]; try first | assumption | (simp; done) | (simp; omega))
     have h44 : ((Th.lg (thA (tD ts th st116 p117 q118 pd119 wt123 e120 v121 yes122) th)).length : Int) = ((Th.lg (thA ts th)).length : Int) := (by rw [th_set (by omega) (by omega)]; try first | assumption | (simp; done) | (simp; omega))
     have h45 : ((Th.pd (thA (tD ts th st116 p117 q118 pd119 wt123 e120 v121 yes122) th)).length : Int) = ((pd119).length : Int) := (by rw [th_set (by omega) (by omega)]; try first | assumption | (simp; done) | (simp; omega))
     have h46 : (Th.wt (thA (tD ts th st116 p117 q118 pd119 wt123 e120 v121 yes122) th)) = false := (by rw [th_set (by omega) (by omega)]; try first | assumption | (simp; done) | (simp; omega))
     have h47 : ((os ++ [th]).length : Int) = (os.length : Int) + 1 := len_app1
     have h48 : (ix (os ++ [th]) (((os ++ [th]).length : Int) - 1)) = th := (by simp [ix])
     have h49 : I64s (os ++ [th]) := i64_app1 ‹_› (by omega)
     refine rk [] 2 3 ⟨[(7, .p 1), (5, .t), (4, .f), (2, .p 0), (1, .i th)], [(1, .cells (hp W X113 Y114 f0 F115 f2 t0 t1 t2 sz lm (tD ts th st116 p117 q118 pd119 wt123 e120 v121 yes122) ph scn fl (os ++ [th]) brk) 32), (0, .cells (hp W xs ys f0 f1 f2 t0 t1 t2 sz lm ts ph scn fl os brk) 32)], 2⟩ [True] ⟨trivial, trivial⟩ ?_
     refine en ?_
     refine an ?_
     refine xw_seq ?_
     refine rgi [(2, .i (((tD ts th st116 p117 q118 pd119 wt123 e120 v121 yes122)).length : Int)), (5, .i ((ts).length : Int)), (6, .f)] 7 [34, 7, 5, 4, 2, 1] [1, 0] [True, ((((List.map thS (tD ts th st116 p117 q118 pd119 wt123 e120 v121 yes122))).length : Nat) : Int) = (((tD ts th st116 p117 q118 pd119 wt123 e120 v121 yes122)).length : Int), True, ((((List.map thS ts)).length : Nat) : Int) = ((ts).length : Int), ((((tD ts th st116 p117 q118 pd119 wt123 e120 v121 yes122)).length : Int) != ((ts).length : Int)) = false] ⟨trivial, (by simp), trivial, (by simp), bne_eq_false_iff_eq.2 (by omega), trivial⟩ ?_
     refine cf ?_
     refine xw_skip ?_
     refine an ?_
     refine xw_seq ?_
     refine reg ?_
     refine rki [(3, .agg (tc (thA ts th)))] 4 0 [38, 7, 5, 4, 2, 1] [1, 0] [True, (0 : Int) ≤ th ∧ th < ((((List.map thS ts)).length : Nat) : Int) ∧ ((List.map thS ts))[(th : Int).toNat]? = some (.agg (tc (thA ts th)))] ⟨trivial, (ix_th (by omega) (by first | omega | (simp only [len_st]; omega) | (simp; done) | (simp; omega) | (simp [len_st, len_stx, len_sty, len_zx, len_zy]; omega))), trivial⟩ ?_
     have h50 : U64s (Th.st (thA ts th)) := (Ths.at (by first | assumption | exact U64s.st (by assumption) _ (by omega)) _).1
     have h51 : ((Th.st (thA ts th)).length : Int) * 8 ≤ 140737488355000 := (Ths.at (by first | assumption | exact U64s.st (by assumption) _ (by omega)) _).2.1
     have h52 : (-9223372036854775808 ≤ (Th.b0 (thA ts th)) ∧ (Th.b0 (thA ts th)) ≤ 9223372036854775807) := (Ths.at (by first | assumption | exact U64s.st (by assumption) _ (by omega)) _).2.2.1
     have h53 : (-9223372036854775808 ≤ (Th.b1 (thA ts th)) ∧ (Th.b1 (thA ts th)) ≤ 9223372036854775807) := (Ths.at (by first | assumption | exact U64s.st (by assumption) _ (by omega)) _).2.2.2.1
     have h54 : Ents (Th.lg (thA ts th)) := (Ths.at (by first | assumption | exact U64s.st (by assumption) _ (by omega)) _).2.2.2.2.1
     have h55 : ((Th.lg (thA ts th)).length : Int) * 16 ≤ 140737488355000 := (Ths.at (by first | assumption | exact U64s.st (by assumption) _ (by omega)) _).2.2.2.2.2.1
     have h56 : Ops (Th.lf (thA ts th)) := (Ths.at (by first | assumption | exact U64s.st (by assumption) _ (by omega)) _).2.2.2.2.2.2.1
     have h57 : ((Th.lf (thA ts th)).length : Int) * 64 ≤ 140737488355000 := (Ths.at (by first | assumption | exact U64s.st (by assumption) _ (by omega)) _).2.2.2.2.2.2.2.1
     have h58 : Ents (Th.pd (thA ts th)) := (Ths.at (by first | assumption | exact U64s.st (by assumption) _ (by omega)) _).2.2.2.2.2.2.2.2.1
     have h59 : ((Th.pd (thA ts th)).length : Int) * 16 ≤ 140737488355000 := (Ths.at (by first | assumption | exact U64s.st (by assumption) _ (by omega)) _).2.2.2.2.2.2.2.2.2.1
     have h60 : Anss (Th.dn (thA ts th)) := (Ths.at (by first | assumption | exact U64s.st (by assumption) _ (by omega)) _).2.2.2.2.2.2.2.2.2.2.1
     have h61 : ((Th.dn (thA ts th)).length : Int) * 24 ≤ 140737488355000 := (Ths.at (by first | assumption | exact U64s.st (by assumption) _ (by omega)) _).2.2.2.2.2.2.2.2.2.2.2
     refine rki [] 3 4 [8, 7, 5, 4, 2, 1] [2, 1, 0] [True, True] ⟨trivial, trivial, trivial⟩ ?_
     refine en ?_
     refine an ?_
     refine xw_seq ?_
     refine reg ?_
     refine rk [(3, .agg (tc (thA (tD ts th st116 p117 q118 pd119 wt123 e120 v121 yes122) th)))] 4 0 ⟨[(43, .elt (.agg (tc (thA (tD ts th st116 p117 q118 pd119 wt123 e120 v121 yes122) th)))), (8, .p 2), (7, .p 1), (5, .t), (4, .f), (2, .p 0), (1, .i th)], [(2, .cells (tc (thA ts th)) 44), (1, .cells (hp W X113 Y114 f0 F115 f2 t0 t1 t2 sz lm (tD ts th st116 p117 q118 pd119 wt123 e120 v121 yes122) ph scn fl (os ++ [th]) brk) 32), (0, .cells (hp W xs ys f0 f1 f2 t0 t1 t2 sz lm ts ph scn fl os brk) 32)], 3⟩ [True, (0 : Int) ≤ th ∧ th < ((((List.map thS (tD ts th st116 p117 q118 pd119 wt123 e120 v121 yes122))).length : Nat) : Int) ∧ ((List.map thS (tD ts th st116 p117 q118 pd119 wt123 e120 v121 yes122)))[(th : Int).toNat]? = some (.agg (tc (thA (tD ts th st116 p117 q118 pd119 wt123 e120 v121 yes122) th)))] ⟨trivial, (ix_th (by omega) (by first | omega | (simp only [len_st]; omega) | (simp; done) | (simp; omega) | (simp [len_st, len_stx, len_sty, len_zx, len_zy]; omega))), trivial⟩ ?_
     have h62 : U64s (Th.st (thA (tD ts th st116 p117 q118 pd119 wt123 e120 v121 yes122) th)) := (Ths.at (by first | assumption | exact U64s.st (by assumption) _ (by omega)) _).1
     have h63 : ((Th.st (thA (tD ts th st116 p117 q118 pd119 wt123 e120 v121 yes122) th)).length : Int) * 8 ≤ 140737488355000 := (Ths.at (by first | assumption | exact U64s.st (by assumption) _ (by omega)) _).2.1
     have h64 : (-9223372036854775808 ≤ (Th.b0 (thA (tD ts th st116 p117 q118 pd119 wt123 e120 v121 yes122) th)) ∧ (Th.b0 (thA (tD ts th st116 p117 q118 pd119 wt123 e120 v121 yes122) th)) ≤ 9223372036854775807) := (Ths.at (by first | assumption | exact U64s.st (by assumption) _ (by omega)) _).2.2.1
     have h65 : (-9223372036854775808 ≤ (Th.b1 (thA (tD ts th st116 p117 q118 pd119 wt123 e120 v121 yes122) th)) ∧ (Th.b1 (thA (tD ts th st116 p117 q118 pd119 wt123 e120 v121 yes122) th)) ≤ 9223372036854775807) := (Ths.at (by first | assumption | exact U64s.st (by assumption) _ (by omega)) _).2.2.2.1
     have h66 : Ents (Th.lg (thA (tD ts th st116 p117 q118 pd119 wt123 e120 v121 yes122) th)) := (Ths.at (by first | assumption | exact U64s.st (by assumption) _ (by omega)) _).2.2.2.2.1
     have h67 : ((Th.lg (thA (tD ts th st116 p117 q118 pd119 wt123 e120 v121 yes122) th)).length : Int) * 16 ≤ 140737488355000 := (Ths.at (by first | assumption | exact U64s.st (by assumption) _ (by omega)) _).2.2.2.2.2.1
     have h68 : Ops (Th.lf (thA (tD ts th st116 p117 q118 pd119 wt123 e120 v121 yes122) th)) := (Ths.at (by first | assumption | exact U64s.st (by assumption) _ (by omega)) _).2.2.2.2.2.2.1
     have h69 : ((Th.lf (thA (tD ts th st116 p117 q118 pd119 wt123 e120 v121 yes122) th)).length : Int) * 64 ≤ 140737488355000 := (Ths.at (by first | assumption | exact U64s.st (by assumption) _ (by omega)) _).2.2.2.2.2.2.2.1
     have h70 : Ents (Th.pd (thA (tD ts th st116 p117 q118 pd119 wt123 e120 v121 yes122) th)) := (Ths.at (by first | assumption | exact U64s.st (by assumption) _ (by omega)) _).2.2.2.2.2.2.2.2.1
     have h71 : ((Th.pd (thA (tD ts th st116 p117 q118 pd119 wt123 e120 v121 yes122) th)).length : Int) * 16 ≤ 140737488355000 := (Ths.at (by first | assumption | exact U64s.st (by assumption) _ (by omega)) _).2.2.2.2.2.2.2.2.2.1
     have h72 : Anss (Th.dn (thA (tD ts th st116 p117 q118 pd119 wt123 e120 v121 yes122) th)) := (Ths.at (by first | assumption | exact U64s.st (by assumption) _ (by omega)) _).2.2.2.2.2.2.2.2.2.2.1
     have h73 : ((Th.dn (thA (tD ts th st116 p117 q118 pd119 wt123 e120 v121 yes122) th)).length : Int) * 24 ≤ 140737488355000 := (Ths.at (by first | assumption | exact U64s.st (by assumption) _ (by omega)) _).2.2.2.2.2.2.2.2.2.2.2
     refine rki [] 3 4 [9, 8, 7, 5, 4, 2, 1] [3, 2, 1, 0] [True, True] ⟨trivial, trivial, trivial⟩ ?_
     refine en ?_
     refine an ?_
     refine rgi [(2, .i (((Th.dn (thA (tD ts th st116 p117 q118 pd119 wt123 e120 v121 yes122) th))).length : Int)), (5, .i (((Th.dn (thA ts th))).length : Int)), (6, .i ((((Th.dn (thA (tD ts th st116 p117 q118 pd119 wt123 e120 v121 yes122) th))).length : Int) - (((Th.dn (thA ts th))).length : Int)))] 8 [10, 9, 8, 7, 5, 4, 2, 1] [3, 2, 1, 0] [True, ((((List.map ansS (Th.dn (thA (tD ts th st116 p117 q118 pd119 wt123 e120 v121 yes122) th)))).length : Nat) : Int) = (((Th.dn (thA (tD ts th st116 p117 q118 pd119 wt123 e120 v121 yes122) th))).length : Int), True, ((((List.map ansS (Th.dn (thA ts th)))).length : Nat) : Int) = (((Th.dn (thA ts th))).length : Int), IntKind.i64.wrap ((((Th.dn (thA (tD ts th st116 p117 q118 pd119 wt123 e120 v121 yes122) th))).length : Int) - (((Th.dn (thA ts th))).length : Int)) = ((((Th.dn (thA (tD ts th st116 p117 q118 pd119 wt123 e120 v121 yes122) th))).length : Int) - (((Th.dn (thA ts th))).length : Int))] ⟨trivial, (by simp), trivial, (by simp), i64_eq (by omega) (by omega), trivial⟩ ?_
     refine rgi [(2, .i (((Th.lf (thA ts th))).length : Int)), (5, .i (((Th.lf (thA (tD ts th st116 p117 q118 pd119 wt123 e120 v121 yes122) th))).length : Int)), (6, .i ((((Th.lf (thA ts th))).length : Int) - (((Th.lf (thA (tD ts th st116 p117 q118 pd119 wt123 e120 v121 yes122) th))).length : Int)))] 8 [11, 10, 9, 8, 7, 5, 4, 2, 1] [3, 2, 1, 0] [True, ((((List.map opS (Th.lf (thA ts th)))).length : Nat) : Int) = (((Th.lf (thA ts th))).length : Int), True, ((((List.map opS (Th.lf (thA (tD ts th st116 p117 q118 pd119 wt123 e120 v121 yes122) th)))).length : Nat) : Int) = (((Th.lf (thA (tD ts th st116 p117 q118 pd119 wt123 e120 v121 yes122) th))).length : Int), IntKind.i64.wrap ((((Th.lf (thA ts th))).length : Int) - (((Th.lf (thA (tD ts th st116 p117 q118 pd119 wt123 e120 v121 yes122) th))).length : Int)) = ((((Th.lf (thA ts th))).length : Int) - (((Th.lf (thA (tD ts th st116 p117 q118 pd119 wt123 e120 v121 yes122) th))).length : Int))] ⟨trivial, (by simp), trivial, (by simp), i64_eq (by omega) (by omega), trivial⟩ ?_
     refine rg [(2, .i (((os ++ [th])).length : Int)), (5, .i ((os).length : Int)), (6, .i ((((os ++ [th])).length : Int) - ((os).length : Int)))] 8 ⟨[(12, .i ((((os ++ [th])).length : Int) - ((os).length : Int))), (11, .i ((((Th.lf (thA ts th))).length : Int) - (((Th.lf (thA (tD ts th st116 p117 q118 pd119 wt123 e120 v121 yes122) th))).length : Int))), (10, .i ((((Th.dn (thA (tD ts th st116 p117 q118 pd119 wt123 e120 v121 yes122) th))).length : Int) - (((Th.dn (thA ts th))).length : Int))), (9, .p 3), (8, .p 2), (7, .p 1), (5, .t), (4, .f), (1, .i th)], [(3, .cells (tc (thA (tD ts th st116 p117 q118 pd119 wt123 e120 v121 yes122) th)) 44), (2, .cells (tc (thA ts th)) 44), (1, .cells (hp W X113 Y114 f0 F115 f2 t0 t1 t2 sz lm (tD ts th st116 p117 q118 pd119 wt123 e120 v121 yes122) ph scn fl (os ++ [th]) brk) 32)], 4⟩ [True, ((((List.map (SV.int .i64) (os ++ [th]))).length : Nat) : Int) = (((os ++ [th])).length : Int), True, ((((List.map (SV.int .i64) os)).length : Nat) : Int) = ((os).length : Int), IntKind.i64.wrap ((((os ++ [th])).length : Int) - ((os).length : Int)) = ((((os ++ [th])).length : Int) - ((os).length : Int))] ⟨trivial, (by simp), trivial, (by simp), i64_eq (by omega) (by omega), trivial⟩ ?_
     refine xw_seq ?_
     refine rgi [(2, .i (((Th.pd (thA ts th))).length : Int)), (3, .f)] 4 [69, 12, 11, 10, 9, 8, 7, 5, 4, 1] [3, 2, 1] [True, ((((List.map entS (Th.pd (thA ts th)))).length : Nat) : Int) = (((Th.pd (thA ts th))).length : Int), (decide (0 < (((Th.pd (thA ts th))).length : Int))) = false] ⟨trivial, (by simp), decide_eq_false (by omega), trivial⟩ ?_
     refine cf ?_
     refine xw_skip ?_
     refine an ?_
     refine xw_seq ?_
     refine reg ?_
     refine rki [(4, .t), (9, .t), (14, .i (((Th.lg (thA (tD ts th st116 p117 q118 pd119 wt123 e120 v121 yes122) th))).length : Int)), (17, .i (((Th.lg (thA ts th))).length : Int)), (18, .t), (22, .t)] 29 0 [127, 119, 12, 10, 9, 7, 4, 1] [3, 1] [(((((Th.dn (thA (tD ts th st116 p117 q118 pd119 wt123 e120 v121 yes122) th))).length : Int) - (((Th.dn (thA ts th))).length : Int)) == ((((Th.lf (thA ts th))).length : Int) - (((Th.lf (thA (tD ts th st116 p117 q118 pd119 wt123 e120 v121 yes122) th))).length : Int))) = true, True, (((((Th.dn (thA (tD ts th st116 p117 q118 pd119 wt123 e120 v121 yes122) th))).length : Int) - (((Th.dn (thA ts th))).length : Int)) == ((((os ++ [th])).length : Int) - ((os).length : Int))) = true, True, True, ((((List.map entS (Th.lg (thA (tD ts th st116 p117 q118 pd119 wt123 e120 v121 yes122) th)))).length : Nat) : Int) = (((Th.lg (thA (tD ts th st116 p117 q118 pd119 wt123 e120 v121 yes122) th))).length : Int), True, ((((List.map entS (Th.lg (thA ts th)))).length : Nat) : Int) = (((Th.lg (thA ts th))).length : Int), ((((Th.lg (thA (tD ts th st116 p117 q118 pd119 wt123 e120 v121 yes122) th))).length : Int) == (((Th.lg (thA ts th))).length : Int)) = true, True, (((((Th.dn (thA (tD ts th st116 p117 q118 pd119 wt123 e120 v121 yes122) th))).length : Int) - (((Th.dn (thA ts th))).length : Int)) == 1) = true, True, True] ⟨beq_iff_eq.2 (by omega), trivial, beq_iff_eq.2 (by omega), trivial, trivial, (by simp), trivial, (by simp), beq_iff_eq.2 (by omega), trivial, beq_iff_eq.2 (by omega), trivial, trivial, trivial⟩ ?_
     refine splitr 127 (x := (!(Th.wt (thA (tD ts th st116 p117 q118 pd119 wt123 e120 v121 yes122) th)))) (by kernel_rfl) (fun h74 => ?_) (fun h74 => ?_)
     ·
      replace h74 : Th.wt (thA (tD ts th st116 p117 q118 pd119 wt123 e120 v121 yes122) th) = false := by first | (simp; done) | simpa using h74 | (simp at h74; omega)
      refine rki [(39, .f), (45, .i (((os ++ [th])).length : Int)), (46, .i ((((os ++ [th])).length : Int) - 1)), (47, .i (ix (os ++ [th]) ((((os ++ [th])).length : Int) - 1)))] 19 29 [146, 139, 136, 4, 1] [] [True, True, (((((os ++ [th])).length : Int) - ((os).length : Int)) == 0) = false, True, True, ((((List.map (SV.int .i64) (os ++ [th]))).length : Nat) : Int) = (((os ++ [th])).length : Int), IntKind.i64.wrap ((((os ++ [th])).length : Int) - 1) = ((((os ++ [th])).length : Int) - 1), (0 : Int) ≤ ((((os ++ [th])).length : Int) - 1) ∧ ((((os ++ [th])).length : Int) - 1) < ((((List.map (SV.int .i64) (os ++ [th]))).length : Nat) : Int) ∧ ((List.map (SV.int .i64) (os ++ [th])))[(((((os ++ [th])).length : Int) - 1) : Int).toNat]? = some (.i (ix (os ++ [th]) ((((os ++ [th])).length : Int) - 1)))] ⟨trivial, trivial, beq_eq_false_iff_ne.2 (by omega), trivial, trivial, (by simp), i64_eq (by omega) (by omega), (ix_ok (by omega) (by first | omega | (simp only [len_st]; omega) | (simp; done) | (simp; omega) | (simp [len_st, len_stx, len_sty, len_zx, len_zy]; omega))), trivial⟩ ?_
      have h75 : -9223372036854775808 ≤ (ix (os ++ [th]) ((((os ++ [th])).length : Int) - 1)) ∧ (ix (os ++ [th]) ((((os ++ [th])).length : Int) - 1)) ≤ 9223372036854775807 := I64s.ix (by first | assumption | exact U64s.st (by assumption) _ (by omega)) _
      refine rk [(50, .t)] 6 48 ⟨[(4, .t)], [], 4⟩ [True, ((ix (os ++ [th]) ((((os ++ [th])).length : Int) - 1)) == th) = true, True, True] ⟨trivial, beq_iff_eq.2 (by omega), trivial, trivial, trivial⟩ ?_
      refine en ?_
      refine an ?_
      refine xw_ret ?_
      exact bs (.t) rfl
     ·
      replace h74 : Th.wt (thA (tD ts th st116 p117 q118 pd119 wt123 e120 v121 yes122) th) = true := by first | (simp; done) | simpa using h74
      exfalso; first | omega | (simp_all; done) | (simp_all; omega) | grind
   ·
    exfalso; first | omega | (simp_all; done) | (simp_all; omega) | grind
 ·
  refine pc (fewB_2 W xs ys f0 f1 f2 t0 t1 t2 sz lm ts ph scn fl os brk ‹_› ‹_› ‹_› ‹_› ‹_› ‹_› ‹_› ‹_› ‹_› ‹_› ‹_› ‹_› (by omega) ‹_› ‹_› ‹_› ‹_› (by omega) ‹_› ‹_›) ?_
  refine rk [] 1 2 ⟨[(6, .f), (5, .t), (4, .f), (2, .p 0), (1, .i th)], [(0, .cells (hp W xs ys f0 f1 f2 t0 t1 t2 sz lm ts ph scn fl os brk) 32)], 1⟩ [] trivial ?_
  refine en ?_
  refine an ?_
  refine xw_seq ?_
  refine rgi [] 8 [23, 5, 4, 2, 1] [0] [True] ⟨trivial, trivial⟩ ?_
  refine ct ?_
  refine rgi [] 2 [4, 5, 2, 1] [0] [] trivial ?_
  refine xw_ret ?_
  refine an_ret ?_
  exact bs (.t) rfl

end Go.Proofs.Ytjchmajamlehmaa.X
