/- Contracts of Go functions: what each returns, for every input that its premises name; no memory of the caller is touched. Printed by a program. -/
import Derived.Test.YtjchmajamlehmaaXn1
namespace Go.Proofs.Ytjchmajamlehmaa.X
open Go Go.RowKit
set_option linter.unusedVariables false      -- a premise may serve only to tell which way is taken
set_option linter.unusedSimpArgs false
set_option maxHeartbeats 8000000 in
theorem actReads (W : Int) (xs ys : List Int) (f0 f1 f2 t0 t1 t2 sz lm : Int) (ts : List Th) (ph scn fl : Int) (os : List Int) (brk th : Int) (hp0 : -9223372036854775808 ≤ W ∧ W ≤ 9223372036854775807) (hp1 : U64s xs) (hp2 : U64s ys) (hp3 : -9223372036854775808 ≤ f0 ∧ f0 ≤ 9223372036854775807) (hp4 : -9223372036854775808 ≤ f1 ∧ f1 ≤ 9223372036854775807) (hp5 : -9223372036854775808 ≤ f2 ∧ f2 ≤ 9223372036854775807) (hp6 : -9223372036854775808 ≤ t0 ∧ t0 ≤ 9223372036854775807) (hp7 : -9223372036854775808 ≤ t1 ∧ t1 ≤ 9223372036854775807) (hp8 : -9223372036854775808 ≤ t2 ∧ t2 ≤ 9223372036854775807) (hp9 : -9223372036854775808 ≤ sz ∧ sz ≤ 9223372036854775807) (hp10 : -9223372036854775808 ≤ lm ∧ lm ≤ 9223372036854775807) (hp11 : Ths ts) (hp12 : (ts.length : Int) * 144 ≤ 140737488355000) (hp13 : -9223372036854775808 ≤ ph ∧ ph ≤ 9223372036854775807) (hp14 : -9223372036854775808 ≤ scn ∧ scn ≤ 9223372036854775807) (hp15 : -9223372036854775808 ≤ fl ∧ fl ≤ 9223372036854775807) (hp16 : I64s os) (hp17 : (os.length : Int) * 8 ≤ 140737488355000) (hp18 : -9223372036854775808 ≤ brk ∧ brk ≤ 9223372036854775807) (hp19 : -9223372036854775808 ≤ th ∧ th ≤ 9223372036854775807) (hp20 : Thg ts) (hp21 : (xs.length : Int) * 8 ≤ 140737488355000) (hp22 : (ys.length : Int) * 8 ≤ 140737488355000) : Pub Try.prog 6 [.agg (hp W xs ys f0 f1 f2 t0 t1 t2 sz lm ts ph scn fl os brk), .i th] (fun rv => rv = .t) := by
 refine pub_of TT_ok Try.func6 rfl (by decide) (Nat.le_of_ble_eq_true (by kernel_rfl)) (by kernel_rfl) ?_
 refine rgi [] 2 [4, 2, 1] [0] [] trivial ?_
 refine xw_seq ?_
 refine reg ?_
 refine pc (shown17 ) ?_
 refine rki [] 1 1 [5, 4, 2, 1] [0] [] trivial ?_
 refine en ?_
 refine an ?_
 refine xw_seq ?_
 refine reg ?_
 refine rki [] 1 0 [10, 5, 4, 2, 1] [0] [True] ⟨trivial, trivial⟩ ?_
 by_cases h0 : (RGT W xs ys f0 f1 f2 t0 t1 t2 sz lm ts ph scn) ∧ (W ≤ 200)
 ·
  obtain ⟨h1, h2⟩ := h0
  refine pc (fewB_1 W xs ys f0 f1 f2 t0 t1 t2 sz lm ts ph scn fl os brk ‹_› ‹_› ‹_› ‹_› ‹_› ‹_› ‹_› ‹_› ‹_› ‹_› ‹_› ‹_› (by omega) ‹_› ‹_› ‹_› ‹_› (by omega) ‹_› ‹_› ‹_›) ?_
  have h3 : 16 ≤ W ∧ W ≤ 4096 ∧ (xs.length : Int) = W ∧ (ys.length : Int) = W := ‹RGT W xs ys f0 f1 f2 t0 t1 t2 sz lm ts ph scn›.1
  have h4 : 0 ≤ f0 ∧ f0 ≤ 1 ∧ 0 ≤ f1 ∧ f1 ≤ f2 ∧ f2 = W := ‹RGT W xs ys f0 f1 f2 t0 t1 t2 sz lm ts ph scn›.2.1
  have h5 : 0 ≤ t0 ∧ t0 ≤ 1 ∧ 0 ≤ t1 ∧ t1 ≤ t2 ∧ t2 = W ∧ f0 ≠ t0 := ‹RGT W xs ys f0 f1 f2 t0 t1 t2 sz lm ts ph scn›.2.2.1
  have h6 : 0 ≤ sz ∧ sz ≤ 4096 ∧ 1 ≤ lm ∧ lm ≤ 64 := ‹RGT W xs ys f0 f1 f2 t0 t1 t2 sz lm ts ph scn›.2.2.2.1
  have h7 : Bfs ts f1 := ‹RGT W xs ys f0 f1 f2 t0 t1 t2 sz lm ts ph scn›.2.2.2.2.2.2
  refine rk [] 1 2 ⟨[(6, .t), (5, .t), (4, .f), (2, .p 0), (1, .i th)], [(0, .cells (hp W xs ys f0 f1 f2 t0 t1 t2 sz lm ts ph scn fl os brk) 32)], 1⟩ [] trivial ?_
  refine en ?_
  refine an ?_
  refine xw_seq ?_
  refine xw_seq ?_
  refine reg ?_
  refine rki [] 5 0 [16, 15, 14, 5, 4, 2, 1] [0] [True] ⟨trivial, trivial⟩ ?_
  by_cases h8 : (canB lm ph brk ts th) = false
  ·
   refine pc (acan_1 W xs ys f0 f1 f2 t0 t1 t2 sz lm ts ph scn fl os brk th ‹_› ‹_› ‹_› ‹_› ‹_› ‹_› ‹_› ‹_› ‹_› ‹_› ‹_› ‹_› (by omega) ‹_› ‹_› ‹_› ‹_› (by omega) ‹_› ‹_› ‹_›) ?_
   refine rki [] 2 6 [19, 5, 4, 2, 1] [0] [True] ⟨trivial, trivial⟩ ?_
   refine en ?_
   refine an ?_
   refine ct ?_
   refine rgi [] 2 [4, 5, 2, 1] [0] [] trivial ?_
   refine xw_ret ?_
   refine an_ret ?_
   exact bs (.t) rfl
  ·
   by_cases h9 : (canB lm ph brk ts th) = true
   ·
    refine pc (acan_2 W xs ys f0 f1 f2 t0 t1 t2 sz lm ts ph scn fl os brk th ‹_› ‹_› ‹_› ‹_› ‹_› ‹_› ‹_› ‹_› ‹_› ‹_› ‹_› ‹_› (by omega) ‹_› ‹_› ‹_› ‹_› (by omega) ‹_› ‹_› ‹_›) ?_
    have h10 : 0 ≤ th ∧ th < (ts.length : Int) := (can_is ‹_›).1
    have h11 : brk = 0 := (can_is ‹_›).2.1
    have h12 : 0 < ((Th.pd (thA ts th)).length : Int) ∨ (((Th.pd (thA ts th)).length : Int) = 0 ∧ 0 < ((Th.lf (thA ts th)).length : Int) ∧ ph ≠ 2) := can_nx ‹_›
    refine rki [] 2 6 [19, 5, 4, 2, 1] [0] [True] ⟨trivial, trivial⟩ ?_
    refine en ?_
    refine an ?_
    refine cf ?_
    refine xw_skip ?_
    refine an ?_
    refine xw_seq ?_
    refine reg ?_
    refine rki [(3, .agg (tc (thA ts th)))] 4 0 [24, 5, 4, 2, 1] [0] [True, (0 : Int) ≤ th ∧ th < ((((List.map thS ts)).length : Nat) : Int) ∧ ((List.map thS ts))[(th : Int).toNat]? = some (.agg (tc (thA ts th)))] ⟨trivial, (ix_th (by omega) (by first | omega | (simp only [len_st]; omega) | (simp; done) | (simp; omega) | (simp [len_st, len_stx, len_sty, len_zx, len_zy]; omega))), trivial⟩ ?_
    have h13 : U64s (Th.st (thA ts th)) := (Ths.at (by first | assumption | exact U64s.st (by assumption) _ (by omega)) _).1
    have h14 : ((Th.st (thA ts th)).length : Int) * 8 ≤ 140737488355000 := (Ths.at (by first | assumption | exact U64s.st (by assumption) _ (by omega)) _).2.1
    have h15 : (-9223372036854775808 ≤ (Th.b0 (thA ts th)) ∧ (Th.b0 (thA ts th)) ≤ 9223372036854775807) := (Ths.at (by first | assumption | exact U64s.st (by assumption) _ (by omega)) _).2.2.1
    have h16 : (-9223372036854775808 ≤ (Th.b1 (thA ts th)) ∧ (Th.b1 (thA ts th)) ≤ 9223372036854775807) := (Ths.at (by first | assumption | exact U64s.st (by assumption) _ (by omega)) _).2.2.2.1
    have h17 : Ents (Th.lg (thA ts th)) := (Ths.at (by first | assumption | exact U64s.st (by assumption) _ (by omega)) _).2.2.2.2.1
    have h18 : ((Th.lg (thA ts th)).length : Int) * 16 ≤ 140737488355000 := (Ths.at (by first | assumption | exact U64s.st (by assumption) _ (by omega)) _).2.2.2.2.2.1
    have h19 : Ops (Th.lf (thA ts th)) := (Ths.at (by first | assumption | exact U64s.st (by assumption) _ (by omega)) _).2.2.2.2.2.2.1
    have h20 : ((Th.lf (thA ts th)).length : Int) * 64 ≤ 140737488355000 := (Ths.at (by first | assumption | exact U64s.st (by assumption) _ (by omega)) _).2.2.2.2.2.2.2.1
    have h21 : Ents (Th.pd (thA ts th)) := (Ths.at (by first | assumption | exact U64s.st (by assumption) _ (by omega)) _).2.2.2.2.2.2.2.2.1
    have h22 : ((Th.pd (thA ts th)).length : Int) * 16 ≤ 140737488355000 := (Ths.at (by first | assumption | exact U64s.st (by assumption) _ (by omega)) _).2.2.2.2.2.2.2.2.2.1
    have h23 : Anss (Th.dn (thA ts th)) := (Ths.at (by first | assumption | exact U64s.st (by assumption) _ (by omega)) _).2.2.2.2.2.2.2.2.2.2.1
    have h24 : ((Th.dn (thA ts th)).length : Int) * 24 ≤ 140737488355000 := (Ths.at (by first | assumption | exact U64s.st (by assumption) _ (by omega)) _).2.2.2.2.2.2.2.2.2.2.2
    refine rk [] 3 4 ⟨[(7, .p 1), (5, .t), (4, .f), (2, .p 0), (1, .i th)], [(1, .cells (tc (thA ts th)) 44), (0, .cells (hp W xs ys f0 f1 f2 t0 t1 t2 sz lm ts ph scn fl os brk) 32)], 2⟩ [True, True] ⟨trivial, trivial, trivial⟩ ?_
    refine en ?_
    refine an ?_
    refine xw_seq ?_
    refine reg ?_
    refine rki [] 2 0 [27, 26, 7, 5, 4, 2] [1, 0] [True] ⟨trivial, trivial⟩ ?_
    refine pcall (args := [.agg (hp W xs ys f0 f1 f2 t0 t1 t2 sz lm ts ph scn fl os brk), .i th]) (args' := [.agg (hp W xs ys f0 f1 f2 t0 t1 t2 sz lm ts ph scn fl os brk), .i th]) (d := (some 28)) (by kernel_rfl) (ado W xs ys f0 f1 f2 t0 t1 t2 sz lm ts ph scn fl os brk th ‹_› ‹_› ‹_› ‹_› ‹_› ‹_› ‹_› ‹_› ‹_› ‹_› ‹_› ‹_› (by omega) ‹_› ‹_› ‹_› ‹_› (by omega) ‹_› ‹_› ‹_› ‹_› (by omega) ‹_›) [(W : Int) = W, (false = true → false = true), ((m64 xs) : List SV) = (m64 xs), (false = true → false = true), ((m64 ys) : List SV) = (m64 ys), (f0 : Int) = f0, (f1 : Int) = f1, (f2 : Int) = f2, (t0 : Int) = t0, (t1 : Int) = t1, (t2 : Int) = t2, (sz : Int) = sz, (lm : Int) = lm, (false = true → false = true), ((List.map thS ts) : List SV) = (List.map thS ts), (ph : Int) = ph, (scn : Int) = scn, (fl : Int) = fl, (false = true → false = true), ((List.map (SV.int .i64) os) : List SV) = (List.map (SV.int .i64) os), (brk : Int) = brk, (th : Int) = th] (by kernel_rfl) ⟨rfl, id, rfl, id, rfl, rfl, rfl, rfl, rfl, rfl, rfl, rfl, rfl, id, rfl, rfl, rfl, rfl, id, rfl, rfl, rfl, trivial⟩ (by kernel_rfl) ?_
    rintro _ (⟨h25, rfl⟩ | ⟨h25, h26, rfl⟩ | ⟨X125, Y126, F127, st128, p129, q130, pd131, e132, v133, yes134, wt135, h36, h37, h38, h39, rfl⟩ | ⟨X125, Y126, F127, st128, p129, q130, pd131, e132, v133, yes134, wt135, h36, h37, h38, h39, rfl⟩)
    ·
     exfalso; first | omega | (simp_all; done) | (simp_all; omega) | grind
    ·
     have h27 : Ths (tP ts th) := (ths_set ‹_› (th_pend (Ths.at ‹_› th) (thg_lg ‹_› th)))
     have h28 : ((tP ts th).length : Int) = (ts.length : Int) := len_set
     have h29 : ((Th.dn (thA (tP ts th) th)).length : Int) = ((Th.dn (thA ts th)).length : Int) := (by rw [th_set (by omega) (by omega)]; try first | assumption | (simp; done) | (simp; omega))
     have h30 : ((Th.lf (thA (tP ts th) th)).length : Int) = ((Th.lf (thA ts th)).length : Int) := (by rw [th_set (by omega) (by omega)]; try first | assumption | (simp; done) | (simp; omega))
     have h31 : ((Th.lg (thA (tP ts th) th)).length : Int) = ((Th.lg (thA ts th)).length : Int) + 1 := (by rw [th_set (by omega) (by omega)]; try first | assumption | (simp; done) | (simp; omega))
     have h32 : ((Th.pd (thA (tP ts th) th)).length : Int) = 0 := (by rw [th_set (by omega) (by omega)]; try first | assumption | (simp; done) | (simp; omega))
     refine rki [] 2 3 [8, 7, 5, 4, 2] [2, 1, 0] [True] ⟨trivial, trivial⟩ ?_
     refine en ?_
     refine an ?_
     refine xw_seq ?_
     refine rgi [(2, .i (((Th.pd (thA ts th))).length : Int)), (3, .f)] 19 [47, 8, 5, 4, 2] [2, 0] [True, ((((List.map entS (Th.pd (thA ts th)))).length : Nat) : Int) = (((Th.pd (thA ts th))).length : Int), ((((Th.pd (thA ts th))).length : Int) == 0) = false, True] ⟨trivial, (by simp), beq_eq_false_iff_ne.2 (by omega), trivial, trivial⟩ ?_
     refine cf ?_
     refine xw_skip ?_
     refine an ?_
     refine xw_seq ?_
     refine reg ?_
     refine rk [] 6 0 ⟨[(54, .agg (mm W xs ys)), (52, .agg (mm W xs ys)), (50, .t), (8, .p 2), (4, .f), (2, .p 0)], [(2, .cells (hp W xs ys f0 f1 f2 t0 t1 t2 sz lm (tP ts th) ph scn fl os brk) 32), (0, .cells (hp W xs ys f0 f1 f2 t0 t1 t2 sz lm ts ph scn fl os brk) 32)], 3⟩ [True, True] ⟨trivial, trivial, trivial⟩ ?_
     refine pc (rsame_1 W xs ys W xs ys ‹_› ‹_› ‹_› ‹_› (by omega) (by omega) (by omega) (by omega) ‹_› ‹_› ⟨rfl, rfl, rfl⟩) ?_
     refine rki [(13, .t), (20, .t), (27, .t)] 23 7 [4] [] [True, True, True, ((f0 == f0) && ((f1 == f1) && ((f2 == f2) && true))) = true, True, True, True, ((t0 == t0) && ((t1 == t1) && ((t2 == t2) && true))) = true, True, True, True, (ph == ph) = true, True] ⟨trivial, trivial, trivial, (by first | (simp <;> omega) | (simp only [Bool.not_eq_eq_eq_not, Bool.not_true, Bool.not_false, Bool.and_eq_true, beq_iff_eq, and_true]; and_intros <;> first | omega | assumption)), trivial, trivial, trivial, (by first | (simp <;> omega) | (simp only [Bool.not_eq_eq_eq_not, Bool.not_true, Bool.not_false, Bool.and_eq_true, beq_iff_eq, and_true]; and_intros <;> first | omega | assumption)), trivial, trivial, trivial, beq_iff_eq.2 (by omega), trivial, trivial⟩ ?_
     refine en ?_
     refine an ?_
     refine xw_ret ?_
     exact bs (.t) rfl
    ·
     have h40 : (X125.length : Int) = W := h36.1.1
     have h41 : (Y126.length : Int) = W := h36.1.2.1
     have h42 : U64s X125 := h36.1.2.2.1
     have h43 : U64s Y126 := h36.1.2.2.2
     have h44 : f1 ≤ F127 ∧ F127 ≤ f2 := h36.2.1
     have h45 : U64s st128 := h36.2.2.1.1
     have h46 : (st128.length : Int) * 8 ≤ 140737488355000 := h36.2.2.1.2
     have h47 : (p129 = 0 ∧ q130 = 0) ∨ (0 ≤ p129 ∧ p129 ≤ q130 ∧ q130 ≤ F127) := h36.2.2.2.1
     have h48 : Ents pd131 := h36.2.2.2.2.1.1
     have h49 : (pd131.length : Int) ≤ 1 := h36.2.2.2.2.1.2
     have h50 : 0 ≤ e132 ∧ e132 ≤ 100 := h36.2.2.2.2.2.1.1
     have h51 : 0 ≤ v133 ∧ v133 ≤ 18446744073709551615 := h36.2.2.2.2.2.1.2
     have h52 : Ths (tW ts th st128 p129 q130 pd131 wt135) := (ths_set ‹_› (th_work (Ths.at ‹_› th) ‹_› (by omega) (by omega) (by omega) ‹_› (by omega)))
     have h53 : ((tW ts th st128 p129 q130 pd131 wt135).length : Int) = (ts.length : Int) := len_set
     have h54 : ((Th.dn (thA (tW ts th st128 p129 q130 pd131 wt135) th)).length : Int) = ((Th.dn (thA ts th)).length : Int) := (by rw [th_set (by omega) (by omega)]; try first | assumption | (simp; done) | (simp; omega))
     have h55 : ((Th.lf (thA (tW ts th st128 p129 q130 pd131 wt135) th)).length : Int) = ((Th.lf (thA ts th)).length : Int) := (by rw [th_set (by omega) (by omega)]; try first | assumption | (simp; done) | (simp; omega))
     have h56 : ((Th.lg (thA (tW ts th st128 p129 q130 pd131 wt135) th)).length : Int) = ((Th.lg (thA ts th)).length : Int) := (by rw [th_set (by omega) (by omega)]; try first | assumption | (simp; done) | (simp; omega))
     have h57 : ((Th.pd (thA (tW ts th st128 p129 q130 pd131 wt135) th)).length : Int) = ((pd131).length : Int) := (by rw [th_set (by omega) (by omega)]; try first | assumption | (simp; done) | (simp; omega))
     have h58 : (Th.wt (thA (tW ts th st128 p129 q130 pd131 wt135) th)) = true := (by rw [th_set (by omega) (by omega)]; try first | assumption | (simp; done) | (simp; omega))
     refine rki [] 2 3 [8, 7, 5, 4, 2] [2, 1, 0] [True] ⟨trivial, trivial⟩ ?_
     refine en ?_
     refine an ?_
     refine xw_seq ?_
     refine xw_seq ?_
     refine reg ?_
     refine rki [(2, .i (((Th.pd (thA ts th))).length : Int)), (3, .t), (7, .agg (oc (o0 ts th)))] 8 0 [36, 33, 8, 7, 5, 4, 2] [2, 1, 0] [True, ((((List.map entS (Th.pd (thA ts th)))).length : Nat) : Int) = (((Th.pd (thA ts th))).length : Int), ((((Th.pd (thA ts th))).length : Int) == 0) = true, True, (0 : Int) ≤ 0 ∧ 0 < ((((List.map opS (Th.lf (thA ts th)))).length : Nat) : Int) ∧ ((List.map opS (Th.lf (thA ts th))))[(0 : Int).toNat]? = some (.agg (oc (o0 ts th)))] ⟨trivial, (by simp), beq_iff_eq.2 (by omega), trivial, (ix_op (by omega) (by first | omega | (simp only [len_st]; omega) | (simp; done) | (simp; omega) | (simp [len_st, len_stx, len_sty, len_zx, len_zy]; omega))), trivial⟩ ?_
     have h59 : (-9223372036854775808 ≤ (OpV.k (o0 ts th)) ∧ (OpV.k (o0 ts th)) ≤ 9223372036854775807) := (Ops.at (by first | assumption | exact U64s.st (by assumption) _ (by omega)) _).1
     have h60 : (-9223372036854775808 ≤ (OpV.h (o0 ts th)) ∧ (OpV.h (o0 ts th)) ≤ 9223372036854775807) := (Ops.at (by first | assumption | exact U64s.st (by assumption) _ (by omega)) _).2.1
     have h61 : (-9223372036854775808 ≤ (OpV.i (o0 ts th)) ∧ (OpV.i (o0 ts th)) ≤ 9223372036854775807) := (Ops.at (by first | assumption | exact U64s.st (by assumption) _ (by omega)) _).2.2.1
     have h62 : (-9223372036854775808 ≤ (OpV.j (o0 ts th)) ∧ (OpV.j (o0 ts th)) ≤ 9223372036854775807) := (Ops.at (by first | assumption | exact U64s.st (by assumption) _ (by omega)) _).2.2.2.1
     have h63 : (0 ≤ (OpV.v (o0 ts th)) ∧ (OpV.v (o0 ts th)) ≤ 18446744073709551615) := (Ops.at (by first | assumption | exact U64s.st (by assumption) _ (by omega)) _).2.2.2.2.1
     have h64 : (-9223372036854775808 ≤ (OpV.t (o0 ts th)) ∧ (OpV.t (o0 ts th)) ≤ 9223372036854775807) := (Ops.at (by first | assumption | exact U64s.st (by assumption) _ (by omega)) _).2.2.2.2.2.1
     have h65 : (-9223372036854775808 ≤ (OpV.l (o0 ts th)) ∧ (OpV.l (o0 ts th)) ≤ 9223372036854775807) := (Ops.at (by first | assumption | exact U64s.st (by assumption) _ (by omega)) _).2.2.2.2.2.2.1
     have h66 : (0 ≤ (OpV.m (o0 ts th)) ∧ (OpV.m (o0 ts th)) ≤ 18446744073709551615) := (Ops.at (by first | assumption | exact U64s.st (by assumption) _ (by omega)) _).2.2.2.2.2.2.2
     refine rk [] 1 8 ⟨[(37, .agg (oc (o0 ts th))), (33, .t), (8, .p 2), (7, .p 1), (5, .t), (4, .f), (2, .p 0)], [(2, .cells (hp W X125 Y126 f0 F127 f2 t0 t1 t2 sz lm (tW ts th st128 p129 q130 pd131 wt135) ph scn fl os brk) 32), (1, .cells (tc (thA ts th)) 44), (0, .cells (hp W xs ys f0 f1 f2 t0 t1 t2 sz lm ts ph scn fl os brk) 32)], 3⟩ [True] ⟨trivial, trivial⟩ ?_
     refine pc (awr (OpV.k (o0 ts th)) (OpV.h (o0 ts th)) (OpV.i (o0 ts th)) (OpV.j (o0 ts th)) (OpV.v (o0 ts th)) (OpV.t (o0 ts th)) (OpV.l (o0 ts th)) (OpV.m (o0 ts th)) ‹_›) ?_
     refine rki [] 1 10 [39, 33, 8, 7, 5, 4, 2] [2, 1, 0] [] trivial ?_
     refine splitr 39 (x := (wrB (OpV.k (o0 ts th)))) (by kernel_rfl) (fun h67 => ?_) (fun h67 => ?_)
     ·
      replace h67 : wrB (OpV.k (o0 ts th)) = true := h67
      refine rki [] 8 11 [47, 8, 5, 4, 2] [2, 0] [True, True] ⟨trivial, trivial, trivial⟩ ?_
      refine en ?_
      refine an ?_
      refine ct ?_
      refine rgi [] 2 [4, 8, 5, 2] [2, 0] [] trivial ?_
      refine xw_ret ?_
      refine an_ret ?_
      exact bs (.t) rfl
     ·
      replace h67 : wrB (OpV.k (o0 ts th)) = false := h67
      refine rki [(13, .agg (oc (o0 ts th)))] 3 11 [42, 39, 33, 8, 5, 4, 2] [2, 0] [True, (0 : Int) ≤ 0 ∧ 0 < ((((List.map opS (Th.lf (thA ts th)))).length : Nat) : Int) ∧ ((List.map opS (Th.lf (thA ts th))))[(0 : Int).toNat]? = some (.agg (oc (o0 ts th)))] ⟨trivial, (ix_op (by omega) (by first | omega | (simp only [len_st]; omega) | (simp; done) | (simp; omega) | (simp [len_st, len_stx, len_sty, len_zx, len_zy]; omega))), trivial⟩ ?_
      have h68 : (-9223372036854775808 ≤ (OpV.k (o0 ts th)) ∧ (OpV.k (o0 ts th)) ≤ 9223372036854775807) := (Ops.at (by first | assumption | exact U64s.st (by assumption) _ (by omega)) _).1
      have h69 : (-9223372036854775808 ≤ (OpV.h (o0 ts th)) ∧ (OpV.h (o0 ts th)) ≤ 9223372036854775807) := (Ops.at (by first | assumption | exact U64s.st (by assumption) _ (by omega)) _).2.1
      have h70 : (-9223372036854775808 ≤ (OpV.i (o0 ts th)) ∧ (OpV.i (o0 ts th)) ≤ 9223372036854775807) := (Ops.at (by first | assumption | exact U64s.st (by assumption) _ (by omega)) _).2.2.1
      have h71 : (-9223372036854775808 ≤ (OpV.j (o0 ts th)) ∧ (OpV.j (o0 ts th)) ≤ 9223372036854775807) := (Ops.at (by first | assumption | exact U64s.st (by assumption) _ (by omega)) _).2.2.2.1
      have h72 : (0 ≤ (OpV.v (o0 ts th)) ∧ (OpV.v (o0 ts th)) ≤ 18446744073709551615) := (Ops.at (by first | assumption | exact U64s.st (by assumption) _ (by omega)) _).2.2.2.2.1
      have h73 : (-9223372036854775808 ≤ (OpV.t (o0 ts th)) ∧ (OpV.t (o0 ts th)) ≤ 9223372036854775807) := (Ops.at (by first | assumption | exact U64s.st (by assumption) _ (by omega)) _).2.2.2.2.2.1
      have h74 : (-9223372036854775808 ≤ (OpV.l (o0 ts th)) ∧ (OpV.l (o0 ts th)) ≤ 9223372036854775807) := (Ops.at (by first | assumption | exact U64s.st (by assumption) _ (by omega)) _).2.2.2.2.2.2.1
      have h75 : (0 ≤ (OpV.m (o0 ts th)) ∧ (OpV.m (o0 ts th)) ≤ 18446744073709551615) := (Ops.at (by first | assumption | exact U64s.st (by assumption) _ (by omega)) _).2.2.2.2.2.2.2
      refine rki [(16, .bool ((OpV.k (o0 ts th)) == 1))] 5 14 [47, 8, 5, 4, 2] [2, 0] [True, sm ((OpV.k (o0 ts th)) == 1), True, True] ⟨trivial, rfl, trivial, trivial, trivial⟩ ?_
      refine en ?_
      refine an ?_
      refine xw_cond (b := ((OpV.k (o0 ts th)) == 1)) (by kernel_rfl) (fun h76 => ?_) (fun h76 => ?_)
      ·
       replace h76 : (OpV.k (o0 ts th)) = 1 := eq_of_beq h76
       refine rg [] 2 ⟨[(4, .t), (8, .p 2), (5, .t), (2, .p 0)], [(2, .cells (hp W X125 Y126 f0 F127 f2 t0 t1 t2 sz lm (tW ts th st128 p129 q130 pd131 wt135) ph scn fl os brk) 32), (0, .cells (hp W xs ys f0 f1 f2 t0 t1 t2 sz lm ts ph scn fl os brk) 32)], 3⟩ [] trivial ?_
       refine xw_ret ?_
       refine an_ret ?_
       exact bs (.t) rfl
      ·
       replace h76 : (OpV.k (o0 ts th)) ≠ 1 := ne_of_beq_false h76
       refine xw_skip ?_
       refine an ?_
       refine xw_seq ?_
       refine reg ?_
       refine rk [] 6 0 ⟨[(54, .agg (mm W xs ys)), (52, .agg (mm W X125 Y126)), (50, .t), (8, .p 2), (4, .f), (2, .p 0)], [(2, .cells (hp W X125 Y126 f0 F127 f2 t0 t1 t2 sz lm (tW ts th st128 p129 q130 pd131 wt135) ph scn fl os brk) 32), (0, .cells (hp W xs ys f0 f1 f2 t0 t1 t2 sz lm ts ph scn fl os brk) 32)], 3⟩ [True, True] ⟨trivial, trivial, trivial⟩ ?_
       have h77 : X125 = xs := ((h36.2.2.2.2.2.2.1.resolve_left (by simp [‹(wrB (OpV.k (o0 ts th))) = false›])).resolve_left (by omega)).1
       have h78 : Y126 = ys := ((h36.2.2.2.2.2.2.1.resolve_left (by simp [‹(wrB (OpV.k (o0 ts th))) = false›])).resolve_left (by omega)).2.1
       have h79 : F127 = f1 := ((h36.2.2.2.2.2.2.1.resolve_left (by simp [‹(wrB (OpV.k (o0 ts th))) = false›])).resolve_left (by omega)).2.2.1
       refine pc (rsame_1 W X125 Y126 W xs ys ‹_› ‹_› ‹_› ‹_› (by omega) (by omega) (by omega) (by omega) ‹_› ‹_› ⟨‹_›, ‹_›, rfl⟩) ?_
       refine rki [(13, .t), (20, .t), (27, .t)] 23 7 [4] [] [True, True, True, ((f0 == f0) && ((F127 == f1) && ((f2 == f2) && true))) = true, True, True, True, ((t0 == t0) && ((t1 == t1) && ((t2 == t2) && true))) = true, True, True, True, (ph == ph) = true, True] ⟨trivial, trivial, trivial, (by first | (simp <;> omega) | (simp only [Bool.not_eq_eq_eq_not, Bool.not_true, Bool.not_false, Bool.and_eq_true, beq_iff_eq, and_true]; and_intros <;> first | omega | assumption)), trivial, trivial, trivial, (by first | (simp <;> omega) | (simp only [Bool.not_eq_eq_eq_not, Bool.not_true, Bool.not_false, Bool.and_eq_true, beq_iff_eq, and_true]; and_intros <;> first | omega | assumption)), trivial, trivial, trivial, beq_iff_eq.2 (by omega), trivial, trivial⟩ ?_
       refine en ?_
       refine an ?_
       refine xw_ret ?_
       exact bs (.t) rfl
    ·
     have h40 : (X125.length : Int) = W := h36.1.1
     have h41 : (Y126.length : Int) = W := h36.1.2.1
     have h42 : U64s X125 := h36.1.2.2.1
     have h43 : U64s Y126 := h36.1.2.2.2
     have h44 : f1 ≤ F127 ∧ F127 ≤ f2 := h36.2.1
     have h45 : U64s st128 := h36.2.2.1.1
     have h46 : (st128.length : Int) * 8 ≤ 140737488355000 := h36.2.2.1.2
     have h47 : (p129 = 0 ∧ q130 = 0) ∨ (0 ≤ p129 ∧ p129 ≤ q130 ∧ q130 ≤ F127) := h36.2.2.2.1
     have h48 : Ents pd131 := h36.2.2.2.2.1.1
     have h49 : (pd131.length : Int) ≤ 1 := h36.2.2.2.2.1.2
     have h50 : 0 ≤ e132 ∧ e132 ≤ 100 := h36.2.2.2.2.2.1.1
     have h51 : 0 ≤ v133 ∧ v133 ≤ 18446744073709551615 := h36.2.2.2.2.2.1.2
     have h52 : Ths (tD ts th st128 p129 q130 pd131 wt135 e132 v133 yes134) := (ths_set ‹_› (th_done (Ths.at ‹_› th) ‹_› (by omega) (by omega) (by omega) ‹_› (by omega) (by omega) (by omega) (thg_at ‹_› th)))
     have h53 : ((tD ts th st128 p129 q130 pd131 wt135 e132 v133 yes134).length : Int) = (ts.length : Int) := len_set
     have h54 : ((Th.dn (thA (tD ts th st128 p129 q130 pd131 wt135 e132 v133 yes134) th)).length : Int) = ((Th.dn (thA ts th)).length : Int) + 1 := (by rw [th_set (by omega) (by omega)]; try first | assumption | (simp; done) | (simp; omega))
     have h55 : ((Th.lf (thA (tD ts th st128 p129 q130 pd131 wt135 e132 v133 yes134) th)).length : Int) = ((Th.lf (thA ts th)).length : Int) - 1 := (by rw [th_set (by omega) (by omega)]; try first | assumption | (simp; done) | (simp; omega))
     have h56 : ((Th.lg (thA (tD ts th st128 p129 q130 pd131 wt135 e132 v133 yes134) th)).length : Int) = ((Th.lg (thA ts th)).length : Int) := (by rw [th_set (by omega) (by omega)]; try first | assumption | (simp; done) | (simp; omega))
     have h57 : ((Th.pd (thA (tD ts th st128 p129 q130 pd131 wt135 e132 v133 yes134) th)).length : Int) = ((pd131).length : Int) := (by rw [th_set (by omega) (by omega)]; try first | assumption | (simp; done) | (simp; omega))
     have h58 : (Th.wt (thA (tD ts th st128 p129 q130 pd131 wt135 e132 v133 yes134) th)) = false := (by rw [th_set (by omega) (by omega)]; try first | assumption | (simp; done) | (simp; omega))
     have h59 : ((os ++ [th]).length : Int) = (os.length : Int) + 1 := len_app1
     have h60 : (ix (os ++ [th]) (((os ++ [th]).length : Int) - 1)) = th := (by simp [ix])
     have h61 : I64s (os ++ [th]) := i64_app1 ‹_› (by omega)
     refine rki [] 2 3 [8, 7, 5, 4, 2] [2, 1, 0] [True] ⟨trivial, trivial⟩ ?_
     refine en ?_
     refine an ?_
     refine xw_seq ?_
     refine xw_seq ?_
     refine reg ?_
     refine rki [(2, .i (((Th.pd (thA ts th))).length : Int)), (3, .t), (7, .agg (oc (o0 ts th)))] 8 0 [36, 33, 8, 7, 5, 4, 2] [2, 1, 0] [True, ((((List.map entS (Th.pd (thA ts th)))).length : Nat) : Int) = (((Th.pd (thA ts th))).length : Int), ((((Th.pd (thA ts th))).length : Int) == 0) = true, True, (0 : Int) ≤ 0 ∧ 0 < ((((List.map opS (Th.lf (thA ts th)))).length : Nat) : Int) ∧ ((List.map opS (Th.lf (thA ts th))))[(0 : Int).toNat]? = some (.agg (oc (o0 ts th)))] ⟨trivial, (by simp), beq_iff_eq.2 (by omega), trivial, (ix_op (by omega) (by first | omega | (simp only [len_st]; omega) | (simp; done) | (simp; omega) | (simp [len_st, len_stx, len_sty, len_zx, len_zy]; omega))), trivial⟩ ?_
     have h62 : (-9223372036854775808 ≤ (OpV.k (o0 ts th)) ∧ (OpV.k (o0 ts th)) ≤ 9223372036854775807) := (Ops.at (by first | assumption | exact U64s.st (by assumption) _ (by omega)) _).1
     have h63 : (-9223372036854775808 ≤ (OpV.h (o0 ts th)) ∧ (OpV.h (o0 ts th)) ≤ 9223372036854775807) := (Ops.at (by first | assumption | exact U64s.st (by assumption) _ (by omega)) _).2.1
     have h64 : (-9223372036854775808 ≤ (OpV.i (o0 ts th)) ∧ (OpV.i (o0 ts th)) ≤ 9223372036854775807) := (Ops.at (by first | assumption | exact U64s.st (by assumption) _ (by omega)) _).2.2.1
     have h65 : (-9223372036854775808 ≤ (OpV.j (o0 ts th)) ∧ (OpV.j (o0 ts th)) ≤ 9223372036854775807) := (Ops.at (by first | assumption | exact U64s.st (by assumption) _ (by omega)) _).2.2.2.1
     have h66 : (0 ≤ (OpV.v (o0 ts th)) ∧ (OpV.v (o0 ts th)) ≤ 18446744073709551615) := (Ops.at (by first | assumption | exact U64s.st (by assumption) _ (by omega)) _).2.2.2.2.1
     have h67 : (-9223372036854775808 ≤ (OpV.t (o0 ts th)) ∧ (OpV.t (o0 ts th)) ≤ 9223372036854775807) := (Ops.at (by first | assumption | exact U64s.st (by assumption) _ (by omega)) _).2.2.2.2.2.1
     have h68 : (-9223372036854775808 ≤ (OpV.l (o0 ts th)) ∧ (OpV.l (o0 ts th)) ≤ 9223372036854775807) := (Ops.at (by first | assumption | exact U64s.st (by assumption) _ (by omega)) _).2.2.2.2.2.2.1
     have h69 : (0 ≤ (OpV.m (o0 ts th)) ∧ (OpV.m (o0 ts th)) ≤ 18446744073709551615) := (Ops.at (by first | assumption | exact U64s.st (by assumption) _ (by omega)) _).2.2.2.2.2.2.2
     refine rk [] 1 8 ⟨[(37, .agg (oc (o0 ts th))), (33, .t), (8, .p 2), (7, .p 1), (5, .t), (4, .f), (2, .p 0)], [(2, .cells (hp W X125 Y126 f0 F127 f2 t0 t1 t2 sz lm (tD ts th st128 p129 q130 pd131 wt135 e132 v133 yes134) ph scn fl (os ++ [th]) brk) 32), (1, .cells (tc (thA ts th)) 44), (0, .cells (hp W xs ys f0 f1 f2 t0 t1 t2 sz lm ts ph scn fl os brk) 32)], 3⟩ [True] ⟨trivial, trivial⟩ ?_
     refine pc (awr (OpV.k (o0 ts th)) (OpV.h (o0 ts th)) (OpV.i (o0 ts th)) (OpV.j (o0 ts th)) (OpV.v (o0 ts th)) (OpV.t (o0 ts th)) (OpV.l (o0 ts th)) (OpV.m (o0 ts th)) ‹_›) ?_
     refine rki [] 1 10 [39, 33, 8, 7, 5, 4, 2] [2, 1, 0] [] trivial ?_
     refine splitr 39 (x := (wrB (OpV.k (o0 ts th)))) (by kernel_rfl) (fun h70 => ?_) (fun h70 => ?_)
     ·
      replace h70 : wrB (OpV.k (o0 ts th)) = true := h70
      refine rki [] 8 11 [47, 8, 5, 4, 2] [2, 0] [True, True] ⟨trivial, trivial, trivial⟩ ?_
      refine en ?_
      refine an ?_
      refine ct ?_
      refine rgi [] 2 [4, 8, 5, 2] [2, 0] [] trivial ?_
      refine xw_ret ?_
      refine an_ret ?_
      exact bs (.t) rfl
     ·
      replace h70 : wrB (OpV.k (o0 ts th)) = false := h70
      refine rki [(13, .agg (oc (o0 ts th)))] 3 11 [42, 39, 33, 8, 5, 4, 2] [2, 0] [True, (0 : Int) ≤ 0 ∧ 0 < ((((List.map opS (Th.lf (thA ts th)))).length : Nat) : Int) ∧ ((List.map opS (Th.lf (thA ts th))))[(0 : Int).toNat]? = some (.agg (oc (o0 ts th)))] ⟨trivial, (ix_op (by omega) (by first | omega | (simp only [len_st]; omega) | (simp; done) | (simp; omega) | (simp [len_st, len_stx, len_sty, len_zx, len_zy]; omega))), trivial⟩ ?_
      have h71 : (-9223372036854775808 ≤ (OpV.k (o0 ts th)) ∧ (OpV.k (o0 ts th)) ≤ 9223372036854775807) := (Ops.at (by first | assumption | exact U64s.st (by assumption) _ (by omega)) _).1
      have h72 : (-9223372036854775808 ≤ (OpV.h (o0 ts th)) ∧ (OpV.h (o0 ts th)) ≤ 9223372036854775807) := (Ops.at (by first | assumption | exact U64s.st (by assumption) _ (by omega)) _).2.1
      have h73 : (-9223372036854775808 ≤ (OpV.i (o0 ts th)) ∧ (OpV.i (o0 ts th)) ≤ 9223372036854775807) := (Ops.at (by first | assumption | exact U64s.st (by assumption) _ (by omega)) _).2.2.1
      have h74 : (-9223372036854775808 ≤ (OpV.j (o0 ts th)) ∧ (OpV.j (o0 ts th)) ≤ 9223372036854775807) := (Ops.at (by first | assumption | exact U64s.st (by assumption) _ (by omega)) _).2.2.2.1
      have h75 : (0 ≤ (OpV.v (o0 ts th)) ∧ (OpV.v (o0 ts th)) ≤ 18446744073709551615) := (Ops.at (by first | assumption | exact U64s.st (by assumption) _ (by omega)) _).2.2.2.2.1
      have h76 : (-9223372036854775808 ≤ (OpV.t (o0 ts th)) ∧ (OpV.t (o0 ts th)) ≤ 9223372036854775807) := (Ops.at (by first | assumption | exact U64s.st (by assumption) _ (by omega)) _).2.2.2.2.2.1
      have h77 : (-9223372036854775808 ≤ (OpV.l (o0 ts th)) ∧ (OpV.l (o0 ts th)) ≤ 9223372036854775807) := (Ops.at (by first | assumption | exact U64s.st (by assumption) _ (by omega)) _).2.2.2.2.2.2.1
      have h78 : (0 ≤ (OpV.m (o0 ts th)) ∧ (OpV.m (o0 ts th)) ≤ 18446744073709551615) := (Ops.at (by first | assumption | exact U64s.st (by assumption) _ (by omega)) _).2.2.2.2.2.2.2
      refine rki [(16, .bool ((OpV.k (o0 ts th)) == 1))] 5 14 [47, 8, 5, 4, 2] [2, 0] [True, sm ((OpV.k (o0 ts th)) == 1), True, True] ⟨trivial, rfl, trivial, trivial, trivial⟩ ?_
      refine en ?_
      refine an ?_
      refine xw_cond (b := ((OpV.k (o0 ts th)) == 1)) (by kernel_rfl) (fun h79 => ?_) (fun h79 => ?_)
      ·
       replace h79 : (OpV.k (o0 ts th)) = 1 := eq_of_beq h79
       refine rg [] 2 ⟨[(4, .t), (8, .p 2), (5, .t), (2, .p 0)], [(2, .cells (hp W X125 Y126 f0 F127 f2 t0 t1 t2 sz lm (tD ts th st128 p129 q130 pd131 wt135 e132 v133 yes134) ph scn fl (os ++ [th]) brk) 32), (0, .cells (hp W xs ys f0 f1 f2 t0 t1 t2 sz lm ts ph scn fl os brk) 32)], 3⟩ [] trivial ?_
       refine xw_ret ?_
       refine an_ret ?_
       exact bs (.t) rfl
      ·
       replace h79 : (OpV.k (o0 ts th)) ≠ 1 := ne_of_beq_false h79
       refine xw_skip ?_
       refine an ?_
       refine xw_seq ?_
       refine reg ?_
       refine rk [] 6 0 ⟨[(54, .agg (mm W xs ys)), (52, .agg (mm W X125 Y126)), (50, .t), (8, .p 2), (4, .f), (2, .p 0)], [(2, .cells (hp W X125 Y126 f0 F127 f2 t0 t1 t2 sz lm (tD ts th st128 p129 q130 pd131 wt135 e132 v133 yes134) ph scn fl (os ++ [th]) brk) 32), (0, .cells (hp W xs ys f0 f1 f2 t0 t1 t2 sz lm ts ph scn fl os brk) 32)], 3⟩ [True, True] ⟨trivial, trivial, trivial⟩ ?_
       have h80 : X125 = xs := ((h36.2.2.2.2.2.2.1.resolve_left (by simp [‹(wrB (OpV.k (o0 ts th))) = false›])).resolve_left (by omega)).1
       have h81 : Y126 = ys := ((h36.2.2.2.2.2.2.1.resolve_left (by simp [‹(wrB (OpV.k (o0 ts th))) = false›])).resolve_left (by omega)).2.1
       have h82 : F127 = f1 := ((h36.2.2.2.2.2.2.1.resolve_left (by simp [‹(wrB (OpV.k (o0 ts th))) = false›])).resolve_left (by omega)).2.2.1
       refine pc (rsame_1 W X125 Y126 W xs ys ‹_› ‹_› ‹_› ‹_› (by omega) (by omega) (by omega) (by omega) ‹_› ‹_› ⟨‹_›, ‹_›, rfl⟩) ?_
       refine rki [(13, .t), (20, .t), (27, .t)] 23 7 [4] [] [True, True, True, ((f0 == f0) && ((F127 == f1) && ((f2 == f2) && true))) = true, True, True, True, ((t0 == t0) && ((t1 == t1) && ((t2 == t2) && true))) = true, True, True, True, (ph == ph) = true, True] ⟨trivial, trivial, trivial, (by first | (simp <;> omega) | (simp only [Bool.not_eq_eq_eq_not, Bool.not_true, Bool.not_false, Bool.and_eq_true, beq_iff_eq, and_true]; and_intros <;> first | omega | assumption)), trivial, trivial, trivial, (by first | (simp <;> omega) | (simp only [Bool.not_eq_eq_eq_not, Bool.not_true, Bool.not_false, Bool.and_eq_true, beq_iff_eq, and_true]; and_intros <;> first | omega | assumption)), trivial, trivial, trivial, beq_iff_eq.2 (by omega), trivial, trivial⟩ ?_
       refine en ?_
       refine an ?_
       refine xw_ret ?_
       exact bs (.t) rfl
   ·
    exfalso; first | omega | (simp_all; done) | (simp_all; omega) | grind
 ·
  refine pc (fewB_2 W xs ys f0 f1 f2 t0 t1 t2 sz lm ts ph scn fl os brk ‹_› ‹_› ‹_› ‹_› ‹_› ‹_› ‹_› ‹_› ‹_› ‹_› ‹_› ‹_› (by omega) ‹_› ‹_› ‹_› ‹_› (by omega) ‹_› ‹_›) ?_
  refine rk [] 1 2 ⟨[(6, .f), (5, .t), (4, .f), (2, .p 0), (1, .i th)], [(0, .cells (hp W xs ys f0 f1 f2 t0 t1 t2 sz lm ts ph scn fl os brk) 32)], 1⟩ [] trivial ?_
  refine en ?_
  refine an ?_
  refine xw_seq ?_
  refine rgi [] 8 [19, 5, 4, 2, 1] [0] [True] ⟨trivial, trivial⟩ ?_
  refine ct ?_
  refine rgi [] 2 [4, 5, 2, 1] [0] [] trivial ?_
  refine xw_ret ?_
  refine an_ret ?_
  exact bs (.t) rfl

end Go.Proofs.Ytjchmajamlehmaa.X
