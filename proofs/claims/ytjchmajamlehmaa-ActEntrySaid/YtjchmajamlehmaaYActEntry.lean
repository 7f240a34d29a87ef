/- Contracts of Go functions: what each returns, for every input that its premises name; no memory of the caller is touched. Printed by a program. -/
import Derived.Test.YtjchmajamlehmaaXn1
namespace Go.Proofs.Ytjchmajamlehmaa.X
open Go Go.RowKit
set_option linter.unusedVariables false      -- a premise may serve only to tell which way is taken
set_option linter.unusedSimpArgs false
set_option maxHeartbeats 8000000 in
theorem actEntry (W : Int) (xs ys : List Int) (f0 f1 f2 t0 t1 t2 sz lm : Int) (ts : List Th) (ph scn fl : Int) (os : List Int) (brk th : Int) (hp0 : -9223372036854775808 ≤ W ∧ W ≤ 9223372036854775807) (hp1 : U64s xs) (hp2 : U64s ys) (hp3 : -9223372036854775808 ≤ f0 ∧ f0 ≤ 9223372036854775807) (hp4 : -9223372036854775808 ≤ f1 ∧ f1 ≤ 9223372036854775807) (hp5 : -9223372036854775808 ≤ f2 ∧ f2 ≤ 9223372036854775807) (hp6 : -9223372036854775808 ≤ t0 ∧ t0 ≤ 9223372036854775807) (hp7 : -9223372036854775808 ≤ t1 ∧ t1 ≤ 9223372036854775807) (hp8 : -9223372036854775808 ≤ t2 ∧ t2 ≤ 9223372036854775807) (hp9 : -9223372036854775808 ≤ sz ∧ sz ≤ 9223372036854775807) (hp10 : -9223372036854775808 ≤ lm ∧ lm ≤ 9223372036854775807) (hp11 : Ths ts) (hp12 : (ts.length : Int) * 144 ≤ 140737488355000) (hp13 : -9223372036854775808 ≤ ph ∧ ph ≤ 9223372036854775807) (hp14 : -9223372036854775808 ≤ scn ∧ scn ≤ 9223372036854775807) (hp15 : -9223372036854775808 ≤ fl ∧ fl ≤ 9223372036854775807) (hp16 : I64s os) (hp17 : (os.length : Int) * 8 ≤ 140737488355000) (hp18 : -9223372036854775808 ≤ brk ∧ brk ≤ 9223372036854775807) (hp19 : -9223372036854775808 ≤ th ∧ th ≤ 9223372036854775807) (hp20 : Thg ts) (hp21 : (xs.length : Int) * 8 ≤ 140737488355000) (hp22 : (ys.length : Int) * 8 ≤ 140737488355000) (hp23 : (os.length : Int) * 8 ≤ 140737488351232) : Pub Try.prog 4 [.agg (hp W xs ys f0 f1 f2 t0 t1 t2 sz lm ts ph scn fl os brk), .i th] (fun rv => rv = .t) := by
 refine pub_of TT_ok Try.func4 rfl (by decide) (Nat.le_of_ble_eq_true (by kernel_rfl)) (by kernel_rfl) ?_
 refine rgi [] 2 [4, 2, 1] [0] [] trivial ?_
 refine xw_seq ?_
 refine reg ?_
 refine pc (shown17 ) ?_
 refine rki [] 1 1 [5, 4, 2, 1] [0] [] trivial ?_
 refine en ?_
 refine an ?_
 refine xw_seq ?_
 refine reg ?_
 refine rki [] 1 0 [13, 5, 4, 2, 1] [0] [True] ⟨trivial, trivial⟩ ?_
 by_cases h0 : (RGT W xs ys f0 f1 f2 t0 t1 t2 sz lm ts ph scn) ∧ (W ≤ 200)
 ·
  obtain ⟨h1, h2⟩ := h0
  refine pc (fewB_1 W xs ys f0 f1 f2 t0 t1 t2 sz lm ts ph scn fl os brk ‹_› ‹_› ‹_› ‹_› ‹_› ‹_› ‹_› ‹_› ‹_› ‹_› ‹_› ‹_› (by omega) ‹_› ‹_› ‹_› ‹_› (by omega) ‹_› ‹_› ‹_›) ?_
  have h3 : 16 ≤ W ∧ W ≤ 4096 ∧ (xs.length : Int) = W ∧ (ys.length : Int) = W := ‹RGT W xs ys f0 f1 f2 t0 t1 t2 sz lm ts ph scn›.1
  have h4 : 0 ≤ f0 ∧ f0 ≤ 1 ∧ 0 ≤ f1 ∧ f1 ≤ f2 ∧ f2 = W := ‹RGT W xs ys f0 f1 f2 t0 t1 t2 sz lm ts ph scn›.2.1
  have h5 : 0 ≤ t0 ∧ t0 ≤ 1 ∧ 0 ≤ t1 ∧ t1 ≤ t2 ∧ t2 = W ∧ f0 ≠ t0 := ‹RGT W xs ys f0 f1 f2 t0 t1 t2 sz lm ts ph scn›.2.2.1
  have h6 : 0 ≤ sz ∧ sz ≤ 4096 ∧ 1 ≤ lm ∧ lm ≤ 64 := ‹RGT W xs ys f0 f1 f2 t0 t1 t2 sz lm ts ph scn›.2.2.2.1
  have h7 : Bfs ts f1 := ‹RGT W xs ys f0 f1 f2 t0 t1 t2 sz lm ts ph scn›.2.2.2.2.2.2
  refine rk [] 1 2 ⟨[(6, .t), (5, .t), (4, .f), (2, .p 0), (1, .i th)], [(0, .cells (hp W xs ys f0 f1 f2 t0 t1 t2 sz lm ts ph scn fl os brk) 32)], 1⟩ [] trivial ?_
  refine en ?_
  refine an ?_
  refine xw_seq ?_
  refine xw_seq ?_
  refine reg ?_
  refine rki [(5, .bool (ph != 1))] 8 0 [22, 5, 4, 2, 1] [0] [True, sm (ph != 1), True] ⟨trivial, rfl, trivial, trivial⟩ ?_
  refine splitr 22 (x := (ph != 1)) (by kernel_rfl) (fun h8 => ?_) (fun h8 => ?_)
  ·
   replace h8 : ph ≠ 1 := bne_iff_ne.1 h8
   refine rki [] 27 8 [49, 5, 4, 2, 1] [0] [True, True, True] ⟨trivial, trivial, trivial, trivial⟩ ?_
   refine en ?_
   refine an ?_
   refine ct ?_
   refine rgi [] 2 [4, 5, 2, 1] [0] [] trivial ?_
   refine xw_ret ?_
   refine an_ret ?_
   exact bs (.t) rfl
  ·
   replace h8 : ph = 1 := bne_eq_false_iff_eq.1 h8
   refine rki [] 2 8 [24, 23, 22, 5, 4, 2, 1] [0] [True] ⟨trivial, trivial⟩ ?_
   by_cases h9 : (canB lm ph brk ts th) = false
   ·
    refine pc (acan_1 W xs ys f0 f1 f2 t0 t1 t2 sz lm ts ph scn fl os brk th ‹_› ‹_› ‹_› ‹_› ‹_› ‹_› ‹_› ‹_› ‹_› ‹_› ‹_› ‹_› (by omega) ‹_› ‹_› ‹_› ‹_› (by omega) ‹_› ‹_› ‹_›) ?_
    refine rki [] 24 11 [49, 5, 4, 2, 1] [0] [True, True, True] ⟨trivial, trivial, trivial, trivial⟩ ?_
    refine en ?_
    refine an ?_
    refine ct ?_
    refine rg [] 2 ⟨[(4, .t), (5, .t), (2, .p 0), (1, .i th)], [(0, .cells (hp W xs ys f0 f1 f2 t0 t1 t2 sz lm ts ph scn fl os brk) 32)], 1⟩ [] trivial ?_
    refine xw_ret ?_
    refine an_ret ?_
    exact bs (.t) rfl
   ·
    by_cases h10 : (canB lm ph brk ts th) = true
    ·
     refine pc (acan_2 W xs ys f0 f1 f2 t0 t1 t2 sz lm ts ph scn fl os brk th ‹_› ‹_› ‹_› ‹_› ‹_› ‹_› ‹_› ‹_› ‹_› ‹_› ‹_› ‹_› (by omega) ‹_› ‹_› ‹_› ‹_› (by omega) ‹_› ‹_› ‹_›) ?_
     have h11 : 0 ≤ th ∧ th < (ts.length : Int) := (can_is ‹_›).1
     have h12 : brk = 0 := (can_is ‹_›).2.1
     have h13 : 0 < ((Th.pd (thA ts th)).length : Int) ∨ (((Th.pd (thA ts th)).length : Int) = 0 ∧ 0 < ((Th.lf (thA ts th)).length : Int) ∧ ph ≠ 2) := can_nx ‹_›
     refine rki [(17, .agg (tc (thA ts th)))] 7 11 [32, 28, 5, 4, 2, 1] [0] [True, True, (0 : Int) ≤ th ∧ th < ((((List.map thS ts)).length : Nat) : Int) ∧ ((List.map thS ts))[(th : Int).toNat]? = some (.agg (tc (thA ts th)))] ⟨trivial, trivial, (ix_th (by omega) (by first | omega | (simp only [len_st]; omega) | (simp; done) | (simp; omega) | (simp [len_st, len_stx, len_sty, len_zx, len_zy]; omega))), trivial⟩ ?_
     have h14 : U64s (Th.st (thA ts th)) := (Ths.at (by first | assumption | exact U64s.st (by assumption) _ (by omega)) _).1
     have h15 : ((Th.st (thA ts th)).length : Int) * 8 ≤ 140737488355000 := (Ths.at (by first | assumption | exact U64s.st (by assumption) _ (by omega)) _).2.1
     have h16 : (-9223372036854775808 ≤ (Th.b0 (thA ts th)) ∧ (Th.b0 (thA ts th)) ≤ 9223372036854775807) := (Ths.at (by first | assumption | exact U64s.st (by assumption) _ (by omega)) _).2.2.1
     have h17 : (-9223372036854775808 ≤ (Th.b1 (thA ts th)) ∧ (Th.b1 (thA ts th)) ≤ 9223372036854775807) := (Ths.at (by first | assumption | exact U64s.st (by assumption) _ (by omega)) _).2.2.2.1
     have h18 : Ents (Th.lg (thA ts th)) := (Ths.at (by first | assumption | exact U64s.st (by assumption) _ (by omega)) _).2.2.2.2.1
     have h19 : ((Th.lg (thA ts th)).length : Int) * 16 ≤ 140737488355000 := (Ths.at (by first | assumption | exact U64s.st (by assumption) _ (by omega)) _).2.2.2.2.2.1
     have h20 : Ops (Th.lf (thA ts th)) := (Ths.at (by first | assumption | exact U64s.st (by assumption) _ (by omega)) _).2.2.2.2.2.2.1
     have h21 : ((Th.lf (thA ts th)).length : Int) * 64 ≤ 140737488355000 := (Ths.at (by first | assumption | exact U64s.st (by assumption) _ (by omega)) _).2.2.2.2.2.2.2.1
     have h22 : Ents (Th.pd (thA ts th)) := (Ths.at (by first | assumption | exact U64s.st (by assumption) _ (by omega)) _).2.2.2.2.2.2.2.2.1
     have h23 : ((Th.pd (thA ts th)).length : Int) * 16 ≤ 140737488355000 := (Ths.at (by first | assumption | exact U64s.st (by assumption) _ (by omega)) _).2.2.2.2.2.2.2.2.2.1
     have h24 : Anss (Th.dn (thA ts th)) := (Ths.at (by first | assumption | exact U64s.st (by assumption) _ (by omega)) _).2.2.2.2.2.2.2.2.2.2.1
     have h25 : ((Th.dn (thA ts th)).length : Int) * 24 ≤ 140737488355000 := (Ths.at (by first | assumption | exact U64s.st (by assumption) _ (by omega)) _).2.2.2.2.2.2.2.2.2.2.2
     refine rk [(20, .i (((Th.pd (thA ts th))).length : Int)), (21, .bool (decide (0 < (((Th.pd (thA ts th))).length : Int))))] 6 18 ⟨[(38, .bool (decide (0 < (((Th.pd (thA ts th))).length : Int)))), (5, .t), (4, .f), (2, .p 0), (1, .i th)], [(0, .cells (hp W xs ys f0 f1 f2 t0 t1 t2 sz lm ts ph scn fl os brk) 32)], 1⟩ [True, ((((List.map entS (Th.pd (thA ts th)))).length : Nat) : Int) = (((Th.pd (thA ts th))).length : Int), sm (decide (0 < (((Th.pd (thA ts th))).length : Int))), True] ⟨trivial, (by simp), rfl, trivial, trivial⟩ ?_
     refine splitr 38 (x := (decide (0 < (((Th.pd (thA ts th))).length : Int)))) (by kernel_rfl) (fun h26 => ?_) (fun h26 => ?_)
     ·
      replace h26 : 0 < ((Th.pd (thA ts th)).length : Int) := of_decide_eq_true h26
      refine rki [] 11 24 [49, 5, 4, 2, 1] [0] [True] ⟨trivial, trivial⟩ ?_
      refine en ?_
      refine an ?_
      refine ct ?_
      refine rgi [] 2 [4, 5, 2, 1] [0] [] trivial ?_
      refine xw_ret ?_
      refine an_ret ?_
      exact bs (.t) rfl
     ·
      replace h26 : ¬ (0 < ((Th.pd (thA ts th)).length : Int)) := of_decide_eq_false h26
      refine rki [(27, .agg (tc (thA ts th)))] 4 24 [42, 38, 5, 4, 2, 1] [0] [True, (0 : Int) ≤ th ∧ th < ((((List.map thS ts)).length : Nat) : Int) ∧ ((List.map thS ts))[(th : Int).toNat]? = some (.agg (tc (thA ts th)))] ⟨trivial, (ix_th (by omega) (by first | omega | (simp only [len_st]; omega) | (simp; done) | (simp; omega) | (simp [len_st, len_stx, len_sty, len_zx, len_zy]; omega))), trivial⟩ ?_
      have h27 : U64s (Th.st (thA ts th)) := (Ths.at (by first | assumption | exact U64s.st (by assumption) _ (by omega)) _).1
      have h28 : ((Th.st (thA ts th)).length : Int) * 8 ≤ 140737488355000 := (Ths.at (by first | assumption | exact U64s.st (by assumption) _ (by omega)) _).2.1
      have h29 : (-9223372036854775808 ≤ (Th.b0 (thA ts th)) ∧ (Th.b0 (thA ts th)) ≤ 9223372036854775807) := (Ths.at (by first | assumption | exact U64s.st (by assumption) _ (by omega)) _).2.2.1
      have h30 : (-9223372036854775808 ≤ (Th.b1 (thA ts th)) ∧ (Th.b1 (thA ts th)) ≤ 9223372036854775807) := (Ths.at (by first | assumption | exact U64s.st (by assumption) _ (by omega)) _).2.2.2.1
      have h31 : Ents (Th.lg (thA ts th)) := (Ths.at (by first | assumption | exact U64s.st (by assumption) _ (by omega)) _).2.2.2.2.1
      have h32 : ((Th.lg (thA ts th)).length : Int) * 16 ≤ 140737488355000 := (Ths.at (by first | assumption | exact U64s.st (by assumption) _ (by omega)) _).2.2.2.2.2.1
      have h33 : Ops (Th.lf (thA ts th)) := (Ths.at (by first | assumption | exact U64s.st (by assumption) _ (by omega)) _).2.2.2.2.2.2.1
      have h34 : ((Th.lf (thA ts th)).length : Int) * 64 ≤ 140737488355000 := (Ths.at (by first | assumption | exact U64s.st (by assumption) _ (by omega)) _).2.2.2.2.2.2.2.1
      have h35 : Ents (Th.pd (thA ts th)) := (Ths.at (by first | assumption | exact U64s.st (by assumption) _ (by omega)) _).2.2.2.2.2.2.2.2.1
      have h36 : ((Th.pd (thA ts th)).length : Int) * 16 ≤ 140737488355000 := (Ths.at (by first | assumption | exact U64s.st (by assumption) _ (by omega)) _).2.2.2.2.2.2.2.2.2.1
      have h37 : Anss (Th.dn (thA ts th)) := (Ths.at (by first | assumption | exact U64s.st (by assumption) _ (by omega)) _).2.2.2.2.2.2.2.2.2.2.1
      have h38 : ((Th.dn (thA ts th)).length : Int) * 24 ≤ 140737488355000 := (Ths.at (by first | assumption | exact U64s.st (by assumption) _ (by omega)) _).2.2.2.2.2.2.2.2.2.2.2
      refine rki [(30, .agg (oc (o0 ts th)))] 3 28 [45, 38, 5, 4, 2, 1] [0] [True, (0 : Int) ≤ 0 ∧ 0 < ((((List.map opS (Th.lf (thA ts th)))).length : Nat) : Int) ∧ ((List.map opS (Th.lf (thA ts th))))[(0 : Int).toNat]? = some (.agg (oc (o0 ts th)))] ⟨trivial, (ix_op (by omega) (by first | omega | (simp only [len_st]; omega) | (simp; done) | (simp; omega) | (simp [len_st, len_stx, len_sty, len_zx, len_zy]; omega))), trivial⟩ ?_
      have h39 : (-9223372036854775808 ≤ (OpV.k (o0 ts th)) ∧ (OpV.k (o0 ts th)) ≤ 9223372036854775807) := (Ops.at (by first | assumption | exact U64s.st (by assumption) _ (by omega)) _).1
      have h40 : (-9223372036854775808 ≤ (OpV.h (o0 ts th)) ∧ (OpV.h (o0 ts th)) ≤ 9223372036854775807) := (Ops.at (by first | assumption | exact U64s.st (by assumption) _ (by omega)) _).2.1
      have h41 : (-9223372036854775808 ≤ (OpV.i (o0 ts th)) ∧ (OpV.i (o0 ts th)) ≤ 9223372036854775807) := (Ops.at (by first | assumption | exact U64s.st (by assumption) _ (by omega)) _).2.2.1
      have h42 : (-9223372036854775808 ≤ (OpV.j (o0 ts th)) ∧ (OpV.j (o0 ts th)) ≤ 9223372036854775807) := (Ops.at (by first | assumption | exact U64s.st (by assumption) _ (by omega)) _).2.2.2.1
      have h43 : (0 ≤ (OpV.v (o0 ts th)) ∧ (OpV.v (o0 ts th)) ≤ 18446744073709551615) := (Ops.at (by first | assumption | exact U64s.st (by assumption) _ (by omega)) _).2.2.2.2.1
      have h44 : (-9223372036854775808 ≤ (OpV.t (o0 ts th)) ∧ (OpV.t (o0 ts th)) ≤ 9223372036854775807) := (Ops.at (by first | assumption | exact U64s.st (by assumption) _ (by omega)) _).2.2.2.2.2.1
      have h45 : (-9223372036854775808 ≤ (OpV.l (o0 ts th)) ∧ (OpV.l (o0 ts th)) ≤ 9223372036854775807) := (Ops.at (by first | assumption | exact U64s.st (by assumption) _ (by omega)) _).2.2.2.2.2.2.1
      have h46 : (0 ≤ (OpV.m (o0 ts th)) ∧ (OpV.m (o0 ts th)) ≤ 18446744073709551615) := (Ops.at (by first | assumption | exact U64s.st (by assumption) _ (by omega)) _).2.2.2.2.2.2.2
      refine rki [] 1 31 [46, 38, 5, 4, 2, 1] [0] [True] ⟨trivial, trivial⟩ ?_
      refine pc (awr (OpV.k (o0 ts th)) (OpV.h (o0 ts th)) (OpV.i (o0 ts th)) (OpV.j (o0 ts th)) (OpV.v (o0 ts th)) (OpV.t (o0 ts th)) (OpV.l (o0 ts th)) (OpV.m (o0 ts th)) ‹_›) ?_
      refine rk [] 2 33 ⟨[(49, .bool (!(wrB (OpV.k (o0 ts th))))), (5, .t), (4, .f), (2, .p 0), (1, .i th)], [(0, .cells (hp W xs ys f0 f1 f2 t0 t1 t2 sz lm ts ph scn fl os brk) 32)], 1⟩ [True] ⟨trivial, trivial⟩ ?_
      refine en ?_
      refine an ?_
      refine xw_cond (b := (!(wrB (OpV.k (o0 ts th))))) (by kernel_rfl) (fun h47 => ?_) (fun h47 => ?_)
      ·
       replace h47 : wrB (OpV.k (o0 ts th)) = false := by first | (simp; done) | simpa using h47 | (simp at h47; omega)
       refine rgi [] 2 [4, 5, 2, 1] [0] [] trivial ?_
       refine xw_ret ?_
       refine an_ret ?_
       exact bs (.t) rfl
      ·
       replace h47 : wrB (OpV.k (o0 ts th)) = true := by first | (simp; done) | simpa using h47
       refine xw_skip ?_
       refine an ?_
       refine xw_seq ?_
       refine reg ?_
       refine rki [] 2 0 [52, 51, 5, 4, 2, 1] [0] [True] ⟨trivial, trivial⟩ ?_
       refine pcall (args := [.agg (hp W xs ys f0 f1 f2 t0 t1 t2 sz lm ts ph scn fl os brk), .i th]) (args' := [.agg (hp W xs ys f0 f1 f2 t0 t1 t2 sz lm ts ph scn fl os brk), .i th]) (d := (some 53)) (by kernel_rfl) (ado W xs ys f0 f1 f2 t0 t1 t2 sz lm ts ph scn fl os brk th ‹_› ‹_› ‹_› ‹_› ‹_› ‹_› ‹_› ‹_› ‹_› ‹_› ‹_› ‹_› (by omega) ‹_› ‹_› ‹_› ‹_› (by omega) ‹_› ‹_› ‹_› ‹_› (by omega) ‹_›) [(W : Int) = W, (false = true → false = true), ((m64 xs) : List SV) = (m64 xs), (false = true → false = true), ((m64 ys) : List SV) = (m64 ys), (f0 : Int) = f0, (f1 : Int) = f1, (f2 : Int) = f2, (t0 : Int) = t0, (t1 : Int) = t1, (t2 : Int) = t2, (sz : Int) = sz, (lm : Int) = lm, (false = true → false = true), ((List.map thS ts) : List SV) = (List.map thS ts), (ph : Int) = ph, (scn : Int) = scn, (fl : Int) = fl, (false = true → false = true), ((List.map (SV.int .i64) os) : List SV) = (List.map (SV.int .i64) os), (brk : Int) = brk, (th : Int) = th] (by kernel_rfl) ⟨rfl, id, rfl, id, rfl, rfl, rfl, rfl, rfl, rfl, rfl, rfl, rfl, id, rfl, rfl, rfl, rfl, id, rfl, rfl, rfl, trivial⟩ (by kernel_rfl) ?_
       rintro _ (⟨h48, rfl⟩ | ⟨h48, h49, rfl⟩ | ⟨X148, Y149, F150, st151, p152, q153, pd154, e155, v156, yes157, wt158, h59, h60, h61, h62, rfl⟩ | ⟨X148, Y149, F150, st151, p152, q153, pd154, e155, v156, yes157, wt158, h59, h60, h61, h62, rfl⟩)
       ·
        exfalso; first | omega | (simp_all; done) | (simp_all; omega) | grind
       ·
        exfalso; first | omega | (simp_all; done) | (simp_all; omega) | grind
       ·
        have h63 : (X148.length : Int) = W := h59.1.1
        have h64 : (Y149.length : Int) = W := h59.1.2.1
        have h65 : U64s X148 := h59.1.2.2.1
        have h66 : U64s Y149 := h59.1.2.2.2
        have h67 : f1 ≤ F150 ∧ F150 ≤ f2 := h59.2.1
        have h68 : U64s st151 := h59.2.2.1.1
        have h69 : (st151.length : Int) * 8 ≤ 140737488355000 := h59.2.2.1.2
        have h70 : (p152 = 0 ∧ q153 = 0) ∨ (0 ≤ p152 ∧ p152 ≤ q153 ∧ q153 ≤ F150) := h59.2.2.2.1
        have h71 : Ents pd154 := h59.2.2.2.2.1.1
        have h72 : (pd154.length : Int) ≤ 1 := h59.2.2.2.2.1.2
        have h73 : 0 ≤ e155 ∧ e155 ≤ 100 := h59.2.2.2.2.2.1.1
        have h74 : 0 ≤ v156 ∧ v156 ≤ 18446744073709551615 := h59.2.2.2.2.2.1.2
        have h75 : Ths (tW ts th st151 p152 q153 pd154 wt158) := (ths_set ‹_› (th_work (Ths.at ‹_› th) ‹_› (by omega) (by omega) (by omega) ‹_› (by omega)))
        have h76 : ((tW ts th st151 p152 q153 pd154 wt158).length : Int) = (ts.length : Int) := len_set
        have h77 : ((Th.dn (thA (tW ts th st151 p152 q153 pd154 wt158) th)).length : Int) = ((Th.dn (thA ts th)).length : Int) := (by rw [th_set (by omega) (by omega)]; try first | assumption | (simp; done) | (simp; omega))
        have h78 : ((Th.lf (thA (tW ts th st151 p152 q153 pd154 wt158) th)).length : Int) = ((Th.lf (thA ts th)).length : Int) := (by rw [th_set (by omega) (by omega)]; try first | assumption | (simp; done) | (simp; omega))
        have h79 : ((Th.lg (thA (tW ts th st151 p152 q153 pd154 wt158) th)).length : Int) = ((Th.lg (thA ts th)).length : Int) := (by rw [th_set (by omega) (by omega)]; try first | assumption | (simp; done) | (simp; omega))
        have h80 : ((Th.pd (thA (tW ts th st151 p152 q153 pd154 wt158) th)).length : Int) = ((pd154).length : Int) := (by rw [th_set (by omega) (by omega)]; try first | assumption | (simp; done) | (simp; omega))
        have h81 : (Th.wt (thA (tW ts th st151 p152 q153 pd154 wt158) th)) = true := (by rw [th_set (by omega) (by omega)]; try first | assumption | (simp; done) | (simp; omega))
        have h82 : (0 : Int) = 1 := absurd ‹wt158 = true› (by rw [(h59.2.2.2.2.2.2.2.1 ‹(wrB (OpV.k (o0 ts th))) = true›).1]; decide)
        exfalso; first | omega | (simp_all; done) | (simp_all; omega) | grind
       ·
        have h63 : (X148.length : Int) = W := h59.1.1
        have h64 : (Y149.length : Int) = W := h59.1.2.1
        have h65 : U64s X148 := h59.1.2.2.1
        have h66 : U64s Y149 := h59.1.2.2.2
        have h67 : f1 ≤ F150 ∧ F150 ≤ f2 := h59.2.1
        have h68 : U64s st151 := h59.2.2.1.1
        have h69 : (st151.length : Int) * 8 ≤ 140737488355000 := h59.2.2.1.2
        have h70 : (p152 = 0 ∧ q153 = 0) ∨ (0 ≤ p152 ∧ p152 ≤ q153 ∧ q153 ≤ F150) := h59.2.2.2.1
        have h71 : Ents pd154 := h59.2.2.2.2.1.1
        have h72 : (pd154.length : Int) ≤ 1 := h59.2.2.2.2.1.2
        have h73 : 0 ≤ e155 ∧ e155 ≤ 100 := h59.2.2.2.2.2.1.1
        have h74 : 0 ≤ v156 ∧ v156 ≤ 18446744073709551615 := h59.2.2.2.2.2.1.2
        have h75 : Ths (tD ts th st151 p152 q153 pd154 wt158 e155 v156 yes157) := (ths_set ‹_› (th_done (Ths.at ‹_› th) ‹_› (by omega) (by omega) (by omega) ‹_› (by omega) (by omega) (by omega) (thg_at ‹_› th)))
        have h76 : ((tD ts th st151 p152 q153 pd154 wt158 e155 v156 yes157).length : Int) = (ts.length : Int) := len_set
        have h77 : ((Th.dn (thA (tD ts th st151 p152 q153 pd154 wt158 e155 v156 yes157) th)).length : Int) = ((Th.dn (thA ts th)).length : Int) + 1 := (by rw [th_set (by omega) (by omega)]; try first | assumption | (simp; done) | (simp; omega))
        have h78 : ((Th.lf (thA (tD ts th st151 p152 q153 pd154 wt158 e155 v156 yes157) th)).length : Int) = ((Th.lf (thA ts th)).length : Int) - 1 := (by rw [th_set (by omega) (by omega)]; try first | assumption | (simp; done) | (simp; omega))
        have h79 : ((Th.lg (thA (tD ts th st151 p152 q153 pd154 wt158 e155 v156 yes157) th)).length : Int) = ((Th.lg (thA ts th)).length : Int) := (by rw [th_set (by omega) (by omega)]; try first | assumption | (simp; done) | (simp; omega))
        have h80 : ((Th.pd (thA (tD ts th st151 p152 q153 pd154 wt158 e155 v156 yes157) th)).length : Int) = ((pd154).length : Int) := (by rw [th_set (by omega) (by omega)]; try first | assumption | (simp; done) | (simp; omega))
        have h81 : (Th.wt (thA (tD ts th st151 p152 q153 pd154 wt158 e155 v156 yes157) th)) = false := (by rw [th_set (by omega) (by omega)]; try first | assumption | (simp; done) | (simp; omega))
        have h82 : ((os ++ [th]).length : Int) = (os.length : Int) + 1 := len_app1
        have h83 : (ix (os ++ [th]) (((os ++ [th]).length : Int) - 1)) = th := (by simp [ix])
        have h84 : I64s (os ++ [th]) := i64_app1 ‹_› (by omega)
        have h85 : (AnsV.e (ansA (Th.dn (thA (tD ts th st151 p152 q153 pd154 wt158 e155 v156 yes157) th)) (((Th.dn (thA (tD ts th st151 p152 q153 pd154 wt158 e155 v156 yes157) th)).length : Int) - 1))) = e155 := ans_e (by omega) (by omega)
        have h86 : (e155 ≠ 0 ∧ ((Th.pd (thA (tD ts th st151 p152 q153 pd154 wt158 e155 v156 yes157) th)).length : Int) = 0) ∨ (e155 = 0 ∧ 0 ≤ (OpV.h (o0 ts th)) ∧ (OpV.h (o0 ts th)) < ((Th.st (thA ts th)).length : Int) ∧ ((Th.pd (thA (tD ts th st151 p152 q153 pd154 wt158 e155 v156 yes157) th)).length : Int) = 1 ∧ (eO (Th.pd (thA (tD ts th st151 p152 q153 pd154 wt158 e155 v156 yes157) th)) 0) = (ix (Th.st (thA ts th)) (OpV.h (o0 ts th))) ∧ (eF (Th.pd (thA (tD ts th st151 p152 q153 pd154 wt158 e155 v156 yes157) th)) 0) = (OpV.i (o0 ts th))) := (by rw [th_set (by omega) (by omega)]; exact en_pd (h59.2.2.2.2.2.2.2.1 ‹(wrB (OpV.k (o0 ts th))) = true›).2 (by omega))
        have h87 : (X148.length : Int) = W ∧ (Y149.length : Int) = W := ⟨(by omega), (by omega)⟩
        have h88 : Bfs (tD ts th st151 p152 q153 pd154 wt158 e155 v156 yes157) F150 := bfs_set ‹Bfs ts f1› (by omega) (by omega) (by omega)
        have h89 : ((Th.lg (thA ts th)).length : Int) * 16 ≤ 140737488351232 := thg_lg ‹_› th
        refine rki [] 2 3 [7, 5, 4, 2, 1] [1, 0] [True] ⟨trivial, trivial⟩ ?_
        refine en ?_
        refine an ?_
        refine xw_seq ?_
        refine xw_seq ?_
        refine dregk hmix (by kernel_rfl) ?_
        refine qri [(2, .i (((tD ts th st151 p152 q153 pd154 wt158 e155 v156 yes157)).length : Int)), (5, .i ((ts).length : Int)), (6, .f), (11, .agg (tc (thA (tD ts th st151 p152 q153 pd154 wt158 e155 v156 yes157) th)))] 12 0 [True, ((((List.map thS (tD ts th st151 p152 q153 pd154 wt158 e155 v156 yes157))).length : Nat) : Int) = (((tD ts th st151 p152 q153 pd154 wt158 e155 v156 yes157)).length : Int), True, ((((List.map thS ts)).length : Nat) : Int) = ((ts).length : Int), ((((tD ts th st151 p152 q153 pd154 wt158 e155 v156 yes157)).length : Int) != ((ts).length : Int)) = false, True, (0 : Int) ≤ th ∧ th < ((((List.map thS (tD ts th st151 p152 q153 pd154 wt158 e155 v156 yes157))).length : Nat) : Int) ∧ ((List.map thS (tD ts th st151 p152 q153 pd154 wt158 e155 v156 yes157)))[(th : Int).toNat]? = some (.agg (tc (thA (tD ts th st151 p152 q153 pd154 wt158 e155 v156 yes157) th)))] ⟨trivial, (by simp), trivial, (by simp), bne_eq_false_iff_eq.2 (by omega), trivial, (ix_th (by omega) (by first | omega | (simp only [len_st]; omega) | (simp; done) | (simp; omega) | (simp [len_st, len_stx, len_sty, len_zx, len_zy]; omega))), trivial⟩ ?_
        have h90 : U64s (Th.st (thA (tD ts th st151 p152 q153 pd154 wt158 e155 v156 yes157) th)) := (Ths.at (by first | assumption | exact U64s.st (by assumption) _ (by omega)) _).1
        have h91 : ((Th.st (thA (tD ts th st151 p152 q153 pd154 wt158 e155 v156 yes157) th)).length : Int) * 8 ≤ 140737488355000 := (Ths.at (by first | assumption | exact U64s.st (by assumption) _ (by omega)) _).2.1
        have h92 : (-9223372036854775808 ≤ (Th.b0 (thA (tD ts th st151 p152 q153 pd154 wt158 e155 v156 yes157) th)) ∧ (Th.b0 (thA (tD ts th st151 p152 q153 pd154 wt158 e155 v156 yes157) th)) ≤ 9223372036854775807) := (Ths.at (by first | assumption | exact U64s.st (by assumption) _ (by omega)) _).2.2.1
        have h93 : (-9223372036854775808 ≤ (Th.b1 (thA (tD ts th st151 p152 q153 pd154 wt158 e155 v156 yes157) th)) ∧ (Th.b1 (thA (tD ts th st151 p152 q153 pd154 wt158 e155 v156 yes157) th)) ≤ 9223372036854775807) := (Ths.at (by first | assumption | exact U64s.st (by assumption) _ (by omega)) _).2.2.2.1
        have h94 : Ents (Th.lg (thA (tD ts th st151 p152 q153 pd154 wt158 e155 v156 yes157) th)) := (Ths.at (by first | assumption | exact U64s.st (by assumption) _ (by omega)) _).2.2.2.2.1
        have h95 : ((Th.lg (thA (tD ts th st151 p152 q153 pd154 wt158 e155 v156 yes157) th)).length : Int) * 16 ≤ 140737488355000 := (Ths.at (by first | assumption | exact U64s.st (by assumption) _ (by omega)) _).2.2.2.2.2.1
        have h96 : Ops (Th.lf (thA (tD ts th st151 p152 q153 pd154 wt158 e155 v156 yes157) th)) := (Ths.at (by first | assumption | exact U64s.st (by assumption) _ (by omega)) _).2.2.2.2.2.2.1
        have h97 : ((Th.lf (thA (tD ts th st151 p152 q153 pd154 wt158 e155 v156 yes157) th)).length : Int) * 64 ≤ 140737488355000 := (Ths.at (by first | assumption | exact U64s.st (by assumption) _ (by omega)) _).2.2.2.2.2.2.2.1
        have h98 : Ents (Th.pd (thA (tD ts th st151 p152 q153 pd154 wt158 e155 v156 yes157) th)) := (Ths.at (by first | assumption | exact U64s.st (by assumption) _ (by omega)) _).2.2.2.2.2.2.2.2.1
        have h99 : ((Th.pd (thA (tD ts th st151 p152 q153 pd154 wt158 e155 v156 yes157) th)).length : Int) * 16 ≤ 140737488355000 := (Ths.at (by first | assumption | exact U64s.st (by assumption) _ (by omega)) _).2.2.2.2.2.2.2.2.2.1
        have h100 : Anss (Th.dn (thA (tD ts th st151 p152 q153 pd154 wt158 e155 v156 yes157) th)) := (Ths.at (by first | assumption | exact U64s.st (by assumption) _ (by omega)) _).2.2.2.2.2.2.2.2.2.2.1
        have h101 : ((Th.dn (thA (tD ts th st151 p152 q153 pd154 wt158 e155 v156 yes157) th)).length : Int) * 24 ≤ 140737488355000 := (Ths.at (by first | assumption | exact U64s.st (by assumption) _ (by omega)) _).2.2.2.2.2.2.2.2.2.2.2
        refine qri [(14, .i (((Th.dn (thA (tD ts th st151 p152 q153 pd154 wt158 e155 v156 yes157) th))).length : Int)), (18, .agg (tc (thA ts th)))] 7 12 [True, ((((List.map ansS (Th.dn (thA (tD ts th st151 p152 q153 pd154 wt158 e155 v156 yes157) th)))).length : Nat) : Int) = (((Th.dn (thA (tD ts th st151 p152 q153 pd154 wt158 e155 v156 yes157) th))).length : Int), True, (0 : Int) ≤ th ∧ th < ((((List.map thS ts)).length : Nat) : Int) ∧ ((List.map thS ts))[(th : Int).toNat]? = some (.agg (tc (thA ts th)))] ⟨trivial, (by simp), trivial, (ix_th (by omega) (by first | omega | (simp only [len_st]; omega) | (simp; done) | (simp; omega) | (simp [len_st, len_stx, len_sty, len_zx, len_zy]; omega))), trivial⟩ ?_
        have h102 : U64s (Th.st (thA ts th)) := (Ths.at (by first | assumption | exact U64s.st (by assumption) _ (by omega)) _).1
        have h103 : ((Th.st (thA ts th)).length : Int) * 8 ≤ 140737488355000 := (Ths.at (by first | assumption | exact U64s.st (by assumption) _ (by omega)) _).2.1
        have h104 : (-9223372036854775808 ≤ (Th.b0 (thA ts th)) ∧ (Th.b0 (thA ts th)) ≤ 9223372036854775807) := (Ths.at (by first | assumption | exact U64s.st (by assumption) _ (by omega)) _).2.2.1
        have h105 : (-9223372036854775808 ≤ (Th.b1 (thA ts th)) ∧ (Th.b1 (thA ts th)) ≤ 9223372036854775807) := (Ths.at (by first | assumption | exact U64s.st (by assumption) _ (by omega)) _).2.2.2.1
        have h106 : Ents (Th.lg (thA ts th)) := (Ths.at (by first | assumption | exact U64s.st (by assumption) _ (by omega)) _).2.2.2.2.1
        have h107 : ((Th.lg (thA ts th)).length : Int) * 16 ≤ 140737488355000 := (Ths.at (by first | assumption | exact U64s.st (by assumption) _ (by omega)) _).2.2.2.2.2.1
        have h108 : Ops (Th.lf (thA ts th)) := (Ths.at (by first | assumption | exact U64s.st (by assumption) _ (by omega)) _).2.2.2.2.2.2.1
        have h109 : ((Th.lf (thA ts th)).length : Int) * 64 ≤ 140737488355000 := (Ths.at (by first | assumption | exact U64s.st (by assumption) _ (by omega)) _).2.2.2.2.2.2.2.1
        have h110 : Ents (Th.pd (thA ts th)) := (Ths.at (by first | assumption | exact U64s.st (by assumption) _ (by omega)) _).2.2.2.2.2.2.2.2.1
        have h111 : ((Th.pd (thA ts th)).length : Int) * 16 ≤ 140737488355000 := (Ths.at (by first | assumption | exact U64s.st (by assumption) _ (by omega)) _).2.2.2.2.2.2.2.2.2.1
        have h112 : Anss (Th.dn (thA ts th)) := (Ths.at (by first | assumption | exact U64s.st (by assumption) _ (by omega)) _).2.2.2.2.2.2.2.2.2.2.1
        have h113 : ((Th.dn (thA ts th)).length : Int) * 24 ≤ 140737488355000 := (Ths.at (by first | assumption | exact U64s.st (by assumption) _ (by omega)) _).2.2.2.2.2.2.2.2.2.2.2
        refine qri [(21, .i (((Th.dn (thA ts th))).length : Int)), (22, .i ((((Th.dn (thA ts th))).length : Int) + 1)), (23, .f)] 6 19 [True, ((((List.map ansS (Th.dn (thA ts th)))).length : Nat) : Int) = (((Th.dn (thA ts th))).length : Int), IntKind.i64.wrap ((((Th.dn (thA ts th))).length : Int) + 1) = ((((Th.dn (thA ts th))).length : Int) + 1), ((((Th.dn (thA (tD ts th st151 p152 q153 pd154 wt158 e155 v156 yes157) th))).length : Int) != ((((Th.dn (thA ts th))).length : Int) + 1)) = false, True] ⟨trivial, (by simp), i64_eq (by omega) (by omega), bne_eq_false_iff_eq.2 (by omega), trivial, trivial⟩ ?_
        refine qen ?_
        refine an ?_
        refine cf ?_
        refine xw_skip ?_
        refine an ?_
        refine xw_seq ?_
        refine reg ?_
        refine rk [(3, .agg (tc (thA (tD ts th st151 p152 q153 pd154 wt158 e155 v156 yes157) th)))] 4 0 ⟨[(82, .elt (.agg (tc (thA (tD ts th st151 p152 q153 pd154 wt158 e155 v156 yes157) th)))), (7, .p 1), (5, .t), (4, .f), (2, .p 0), (1, .i th)], [(1, .cells (hp W X148 Y149 f0 F150 f2 t0 t1 t2 sz lm (tD ts th st151 p152 q153 pd154 wt158 e155 v156 yes157) ph scn fl (os ++ [th]) brk) 32), (0, .cells (hp W xs ys f0 f1 f2 t0 t1 t2 sz lm ts ph scn fl os brk) 32)], 2⟩ [True, (0 : Int) ≤ th ∧ th < ((((List.map thS (tD ts th st151 p152 q153 pd154 wt158 e155 v156 yes157))).length : Nat) : Int) ∧ ((List.map thS (tD ts th st151 p152 q153 pd154 wt158 e155 v156 yes157)))[(th : Int).toNat]? = some (.agg (tc (thA (tD ts th st151 p152 q153 pd154 wt158 e155 v156 yes157) th)))] ⟨trivial, (ix_th (by omega) (by first | omega | (simp only [len_st]; omega) | (simp; done) | (simp; omega) | (simp [len_st, len_stx, len_sty, len_zx, len_zy]; omega))), trivial⟩ ?_
        have h114 : U64s (Th.st (thA (tD ts th st151 p152 q153 pd154 wt158 e155 v156 yes157) th)) := (Ths.at (by first | assumption | exact U64s.st (by assumption) _ (by omega)) _).1
        have h115 : ((Th.st (thA (tD ts th st151 p152 q153 pd154 wt158 e155 v156 yes157) th)).length : Int) * 8 ≤ 140737488355000 := (Ths.at (by first | assumption | exact U64s.st (by assumption) _ (by omega)) _).2.1
        have h116 : (-9223372036854775808 ≤ (Th.b0 (thA (tD ts th st151 p152 q153 pd154 wt158 e155 v156 yes157) th)) ∧ (Th.b0 (thA (tD ts th st151 p152 q153 pd154 wt158 e155 v156 yes157) th)) ≤ 9223372036854775807) := (Ths.at (by first | assumption | exact U64s.st (by assumption) _ (by omega)) _).2.2.1
        have h117 : (-9223372036854775808 ≤ (Th.b1 (thA (tD ts th st151 p152 q153 pd154 wt158 e155 v156 yes157) th)) ∧ (Th.b1 (thA (tD ts th st151 p152 q153 pd154 wt158 e155 v156 yes157) th)) ≤ 9223372036854775807) := (Ths.at (by first | assumption | exact U64s.st (by assumption) _ (by omega)) _).2.2.2.1
        have h118 : Ents (Th.lg (thA (tD ts th st151 p152 q153 pd154 wt158 e155 v156 yes157) th)) := (Ths.at (by first | assumption | exact U64s.st (by assumption) _ (by omega)) _).2.2.2.2.1
        have h119 : ((Th.lg (thA (tD ts th st151 p152 q153 pd154 wt158 e155 v156 yes157) th)).length : Int) * 16 ≤ 140737488355000 := (Ths.at (by first | assumption | exact U64s.st (by assumption) _ (by omega)) _).2.2.2.2.2.1
        have h120 : Ops (Th.lf (thA (tD ts th st151 p152 q153 pd154 wt158 e155 v156 yes157) th)) := (Ths.at (by first | assumption | exact U64s.st (by assumption) _ (by omega)) _).2.2.2.2.2.2.1
        have h121 : ((Th.lf (thA (tD ts th st151 p152 q153 pd154 wt158 e155 v156 yes157) th)).length : Int) * 64 ≤ 140737488355000 := (Ths.at (by first | assumption | exact U64s.st (by assumption) _ (by omega)) _).2.2.2.2.2.2.2.1
        have h122 : Ents (Th.pd (thA (tD ts th st151 p152 q153 pd154 wt158 e155 v156 yes157) th)) := (Ths.at (by first | assumption | exact U64s.st (by assumption) _ (by omega)) _).2.2.2.2.2.2.2.2.1
        have h123 : ((Th.pd (thA (tD ts th st151 p152 q153 pd154 wt158 e155 v156 yes157) th)).length : Int) * 16 ≤ 140737488355000 := (Ths.at (by first | assumption | exact U64s.st (by assumption) _ (by omega)) _).2.2.2.2.2.2.2.2.2.1
        have h124 : Anss (Th.dn (thA (tD ts th st151 p152 q153 pd154 wt158 e155 v156 yes157) th)) := (Ths.at (by first | assumption | exact U64s.st (by assumption) _ (by omega)) _).2.2.2.2.2.2.2.2.2.2.1
        have h125 : ((Th.dn (thA (tD ts th st151 p152 q153 pd154 wt158 e155 v156 yes157) th)).length : Int) * 24 ≤ 140737488355000 := (Ths.at (by first | assumption | exact U64s.st (by assumption) _ (by omega)) _).2.2.2.2.2.2.2.2.2.2.2
        refine rki [] 3 4 [8, 7, 5, 4, 2, 1] [2, 1, 0] [True, True] ⟨trivial, trivial, trivial⟩ ?_
        refine en ?_
        refine an ?_
        refine xw_seq ?_
        refine xw_seq ?_
        refine reg ?_
        refine rki [(4, .i (((Th.dn (thA (tD ts th st151 p152 q153 pd154 wt158 e155 v156 yes157) th))).length : Int)), (5, .i ((((Th.dn (thA (tD ts th st151 p152 q153 pd154 wt158 e155 v156 yes157) th))).length : Int) - 1)), (6, .agg [.i (AnsV.e (ansA (Th.dn (thA (tD ts th st151 p152 q153 pd154 wt158 e155 v156 yes157) th)) ((((Th.dn (thA (tD ts th st151 p152 q153 pd154 wt158 e155 v156 yes157) th))).length : Int) - 1))), .u (AnsV.v (ansA (Th.dn (thA (tD ts th st151 p152 q153 pd154 wt158 e155 v156 yes157) th)) ((((Th.dn (thA (tD ts th st151 p152 q153 pd154 wt158 e155 v156 yes157) th))).length : Int) - 1))), .bool (AnsV.y (ansA (Th.dn (thA (tD ts th st151 p152 q153 pd154 wt158 e155 v156 yes157) th)) ((((Th.dn (thA (tD ts th st151 p152 q153 pd154 wt158 e155 v156 yes157) th))).length : Int) - 1)))])] 7 0 [90, 8, 7, 5, 4, 2, 1] [2, 1, 0] [True, True, ((((List.map ansS (Th.dn (thA (tD ts th st151 p152 q153 pd154 wt158 e155 v156 yes157) th)))).length : Nat) : Int) = (((Th.dn (thA (tD ts th st151 p152 q153 pd154 wt158 e155 v156 yes157) th))).length : Int), IntKind.i64.wrap ((((Th.dn (thA (tD ts th st151 p152 q153 pd154 wt158 e155 v156 yes157) th))).length : Int) - 1) = ((((Th.dn (thA (tD ts th st151 p152 q153 pd154 wt158 e155 v156 yes157) th))).length : Int) - 1), (0 : Int) ≤ ((((Th.dn (thA (tD ts th st151 p152 q153 pd154 wt158 e155 v156 yes157) th))).length : Int) - 1) ∧ ((((Th.dn (thA (tD ts th st151 p152 q153 pd154 wt158 e155 v156 yes157) th))).length : Int) - 1) < ((((List.map ansS (Th.dn (thA (tD ts th st151 p152 q153 pd154 wt158 e155 v156 yes157) th)))).length : Nat) : Int) ∧ ((List.map ansS (Th.dn (thA (tD ts th st151 p152 q153 pd154 wt158 e155 v156 yes157) th))))[(((((Th.dn (thA (tD ts th st151 p152 q153 pd154 wt158 e155 v156 yes157) th))).length : Int) - 1) : Int).toNat]? = some (.agg [.i (AnsV.e (ansA (Th.dn (thA (tD ts th st151 p152 q153 pd154 wt158 e155 v156 yes157) th)) ((((Th.dn (thA (tD ts th st151 p152 q153 pd154 wt158 e155 v156 yes157) th))).length : Int) - 1))), .u (AnsV.v (ansA (Th.dn (thA (tD ts th st151 p152 q153 pd154 wt158 e155 v156 yes157) th)) ((((Th.dn (thA (tD ts th st151 p152 q153 pd154 wt158 e155 v156 yes157) th))).length : Int) - 1))), .bool (AnsV.y (ansA (Th.dn (thA (tD ts th st151 p152 q153 pd154 wt158 e155 v156 yes157) th)) ((((Th.dn (thA (tD ts th st151 p152 q153 pd154 wt158 e155 v156 yes157) th))).length : Int) - 1)))])] ⟨trivial, trivial, (by simp), i64_eq (by omega) (by omega), (ix_ans (by omega) (by first | omega | (simp only [len_st]; omega) | (simp; done) | (simp; omega) | (simp [len_st, len_stx, len_sty, len_zx, len_zy]; omega))), trivial⟩ ?_
        have h126 : (-9223372036854775808 ≤ (AnsV.e (ansA (Th.dn (thA (tD ts th st151 p152 q153 pd154 wt158 e155 v156 yes157) th)) ((((Th.dn (thA (tD ts th st151 p152 q153 pd154 wt158 e155 v156 yes157) th))).length : Int) - 1))) ∧ (AnsV.e (ansA (Th.dn (thA (tD ts th st151 p152 q153 pd154 wt158 e155 v156 yes157) th)) ((((Th.dn (thA (tD ts th st151 p152 q153 pd154 wt158 e155 v156 yes157) th))).length : Int) - 1))) ≤ 9223372036854775807) := (Anss.at (by first | assumption | exact U64s.st (by assumption) _ (by omega)) _).1
        have h127 : (0 ≤ (AnsV.v (ansA (Th.dn (thA (tD ts th st151 p152 q153 pd154 wt158 e155 v156 yes157) th)) ((((Th.dn (thA (tD ts th st151 p152 q153 pd154 wt158 e155 v156 yes157) th))).length : Int) - 1))) ∧ (AnsV.v (ansA (Th.dn (thA (tD ts th st151 p152 q153 pd154 wt158 e155 v156 yes157) th)) ((((Th.dn (thA (tD ts th st151 p152 q153 pd154 wt158 e155 v156 yes157) th))).length : Int) - 1))) ≤ 18446744073709551615) := (Anss.at (by first | assumption | exact U64s.st (by assumption) _ (by omega)) _).2
        refine rki [(9, .bool ((AnsV.e (ansA (Th.dn (thA (tD ts th st151 p152 q153 pd154 wt158 e155 v156 yes157) th)) ((((Th.dn (thA (tD ts th st151 p152 q153 pd154 wt158 e155 v156 yes157) th))).length : Int) - 1))) != 0))] 3 7 [93, 8, 7, 5, 4, 2, 1] [2, 1, 0] [True, sm ((AnsV.e (ansA (Th.dn (thA (tD ts th st151 p152 q153 pd154 wt158 e155 v156 yes157) th)) ((((Th.dn (thA (tD ts th st151 p152 q153 pd154 wt158 e155 v156 yes157) th))).length : Int) - 1))) != 0)] ⟨trivial, rfl, trivial⟩ ?_
        refine en ?_
        refine an ?_
        refine xw_cond (b := ((AnsV.e (ansA (Th.dn (thA (tD ts th st151 p152 q153 pd154 wt158 e155 v156 yes157) th)) ((((Th.dn (thA (tD ts th st151 p152 q153 pd154 wt158 e155 v156 yes157) th))).length : Int) - 1))) != 0)) (by kernel_rfl) (fun h128 => ?_) (fun h128 => ?_)
        ·
         replace h128 : (AnsV.e (ansA (Th.dn (thA (tD ts th st151 p152 q153 pd154 wt158 e155 v156 yes157) th)) (((Th.dn (thA (tD ts th st151 p152 q153 pd154 wt158 e155 v156 yes157) th)).length : Int) - 1))) ≠ 0 := bne_iff_ne.1 h128
         refine rg [(4, .i (((Th.pd (thA (tD ts th st151 p152 q153 pd154 wt158 e155 v156 yes157) th))).length : Int)), (5, .t)] 8 ⟨[(4, .t), (8, .p 2), (7, .p 1), (5, .t), (2, .p 0), (1, .i th)], [(2, .cells (tc (thA (tD ts th st151 p152 q153 pd154 wt158 e155 v156 yes157) th)) 44), (1, .cells (hp W X148 Y149 f0 F150 f2 t0 t1 t2 sz lm (tD ts th st151 p152 q153 pd154 wt158 e155 v156 yes157) ph scn fl (os ++ [th]) brk) 32), (0, .cells (hp W xs ys f0 f1 f2 t0 t1 t2 sz lm ts ph scn fl os brk) 32)], 3⟩ [True, ((((List.map entS (Th.pd (thA (tD ts th st151 p152 q153 pd154 wt158 e155 v156 yes157) th)))).length : Nat) : Int) = (((Th.pd (thA (tD ts th st151 p152 q153 pd154 wt158 e155 v156 yes157) th))).length : Int), ((((Th.pd (thA (tD ts th st151 p152 q153 pd154 wt158 e155 v156 yes157) th))).length : Int) == 0) = true, True] ⟨trivial, (by simp), beq_iff_eq.2 (by omega), trivial, trivial⟩ ?_
         refine xw_ret ?_
         refine an_ret ?_
         exact bs (.t) rfl
        ·
         replace h128 : (AnsV.e (ansA (Th.dn (thA (tD ts th st151 p152 q153 pd154 wt158 e155 v156 yes157) th)) (((Th.dn (thA (tD ts th st151 p152 q153 pd154 wt158 e155 v156 yes157) th)).length : Int) - 1))) = 0 := bne_eq_false_iff_eq.1 h128
         refine xw_skip ?_
         refine an ?_
         refine xw_seq ?_
         refine reg ?_
         refine rk [(3, .agg (tc (thA ts th)))] 4 0 ⟨[(104, .elt (.agg (tc (thA ts th)))), (8, .p 2), (7, .p 1), (5, .t), (4, .f), (2, .p 0), (1, .i th)], [(2, .cells (tc (thA (tD ts th st151 p152 q153 pd154 wt158 e155 v156 yes157) th)) 44), (1, .cells (hp W X148 Y149 f0 F150 f2 t0 t1 t2 sz lm (tD ts th st151 p152 q153 pd154 wt158 e155 v156 yes157) ph scn fl (os ++ [th]) brk) 32), (0, .cells (hp W xs ys f0 f1 f2 t0 t1 t2 sz lm ts ph scn fl os brk) 32)], 3⟩ [True, (0 : Int) ≤ th ∧ th < ((((List.map thS ts)).length : Nat) : Int) ∧ ((List.map thS ts))[(th : Int).toNat]? = some (.agg (tc (thA ts th)))] ⟨trivial, (ix_th (by omega) (by first | omega | (simp only [len_st]; omega) | (simp; done) | (simp; omega) | (simp [len_st, len_stx, len_sty, len_zx, len_zy]; omega))), trivial⟩ ?_
         have h129 : U64s (Th.st (thA ts th)) := (Ths.at (by first | assumption | exact U64s.st (by assumption) _ (by omega)) _).1
         have h130 : ((Th.st (thA ts th)).length : Int) * 8 ≤ 140737488355000 := (Ths.at (by first | assumption | exact U64s.st (by assumption) _ (by omega)) _).2.1
         have h131 : (-9223372036854775808 ≤ (Th.b0 (thA ts th)) ∧ (Th.b0 (thA ts th)) ≤ 9223372036854775807) := (Ths.at (by first | assumption | exact U64s.st (by assumption) _ (by omega)) _).2.2.1
         have h132 : (-9223372036854775808 ≤ (Th.b1 (thA ts th)) ∧ (Th.b1 (thA ts th)) ≤ 9223372036854775807) := (Ths.at (by first | assumption | exact U64s.st (by assumption) _ (by omega)) _).2.2.2.1
         have h133 : Ents (Th.lg (thA ts th)) := (Ths.at (by first | assumption | exact U64s.st (by assumption) _ (by omega)) _).2.2.2.2.1
         have h134 : ((Th.lg (thA ts th)).length : Int) * 16 ≤ 140737488355000 := (Ths.at (by first | assumption | exact U64s.st (by assumption) _ (by omega)) _).2.2.2.2.2.1
         have h135 : Ops (Th.lf (thA ts th)) := (Ths.at (by first | assumption | exact U64s.st (by assumption) _ (by omega)) _).2.2.2.2.2.2.1
         have h136 : ((Th.lf (thA ts th)).length : Int) * 64 ≤ 140737488355000 := (Ths.at (by first | assumption | exact U64s.st (by assumption) _ (by omega)) _).2.2.2.2.2.2.2.1
         have h137 : Ents (Th.pd (thA ts th)) := (Ths.at (by first | assumption | exact U64s.st (by assumption) _ (by omega)) _).2.2.2.2.2.2.2.2.1
         have h138 : ((Th.pd (thA ts th)).length : Int) * 16 ≤ 140737488355000 := (Ths.at (by first | assumption | exact U64s.st (by assumption) _ (by omega)) _).2.2.2.2.2.2.2.2.2.1
         have h139 : Anss (Th.dn (thA ts th)) := (Ths.at (by first | assumption | exact U64s.st (by assumption) _ (by omega)) _).2.2.2.2.2.2.2.2.2.2.1
         have h140 : ((Th.dn (thA ts th)).length : Int) * 24 ≤ 140737488355000 := (Ths.at (by first | assumption | exact U64s.st (by assumption) _ (by omega)) _).2.2.2.2.2.2.2.2.2.2.2
         refine rki [(6, .agg (oc (o0 ts th)))] 3 4 [107, 8, 7, 5, 4, 2, 1] [2, 1, 0] [True, (0 : Int) ≤ 0 ∧ 0 < ((((List.map opS (Th.lf (thA ts th)))).length : Nat) : Int) ∧ ((List.map opS (Th.lf (thA ts th))))[(0 : Int).toNat]? = some (.agg (oc (o0 ts th)))] ⟨trivial, (ix_op (by omega) (by first | omega | (simp only [len_st]; omega) | (simp; done) | (simp; omega) | (simp [len_st, len_stx, len_sty, len_zx, len_zy]; omega))), trivial⟩ ?_
         have h141 : (-9223372036854775808 ≤ (OpV.k (o0 ts th)) ∧ (OpV.k (o0 ts th)) ≤ 9223372036854775807) := (Ops.at (by first | assumption | exact U64s.st (by assumption) _ (by omega)) _).1
         have h142 : (-9223372036854775808 ≤ (OpV.h (o0 ts th)) ∧ (OpV.h (o0 ts th)) ≤ 9223372036854775807) := (Ops.at (by first | assumption | exact U64s.st (by assumption) _ (by omega)) _).2.1
         have h143 : (-9223372036854775808 ≤ (OpV.i (o0 ts th)) ∧ (OpV.i (o0 ts th)) ≤ 9223372036854775807) := (Ops.at (by first | assumption | exact U64s.st (by assumption) _ (by omega)) _).2.2.1
         have h144 : (-9223372036854775808 ≤ (OpV.j (o0 ts th)) ∧ (OpV.j (o0 ts th)) ≤ 9223372036854775807) := (Ops.at (by first | assumption | exact U64s.st (by assumption) _ (by omega)) _).2.2.2.1
         have h145 : (0 ≤ (OpV.v (o0 ts th)) ∧ (OpV.v (o0 ts th)) ≤ 18446744073709551615) := (Ops.at (by first | assumption | exact U64s.st (by assumption) _ (by omega)) _).2.2.2.2.1
         have h146 : (-9223372036854775808 ≤ (OpV.t (o0 ts th)) ∧ (OpV.t (o0 ts th)) ≤ 9223372036854775807) := (Ops.at (by first | assumption | exact U64s.st (by assumption) _ (by omega)) _).2.2.2.2.2.1
         have h147 : (-9223372036854775808 ≤ (OpV.l (o0 ts th)) ∧ (OpV.l (o0 ts th)) ≤ 9223372036854775807) := (Ops.at (by first | assumption | exact U64s.st (by assumption) _ (by omega)) _).2.2.2.2.2.2.1
         have h148 : (0 ≤ (OpV.m (o0 ts th)) ∧ (OpV.m (o0 ts th)) ≤ 18446744073709551615) := (Ops.at (by first | assumption | exact U64s.st (by assumption) _ (by omega)) _).2.2.2.2.2.2.2
         refine rki [] 3 7 [9, 8, 7, 5, 4, 2, 1] [3, 2, 1, 0] [True, True] ⟨trivial, trivial, trivial⟩ ?_
         refine en ?_
         refine an ?_
         refine xw_seq ?_
         refine xw_seq ?_
         refine dregk hmix (by kernel_rfl) ?_
         refine qri [(2, .i (((Th.pd (thA (tD ts th st151 p152 q153 pd154 wt158 e155 v156 yes157) th))).length : Int)), (3, .f), (7, .agg [.u (eO (Th.pd (thA (tD ts th st151 p152 q153 pd154 wt158 e155 v156 yes157) th)) 0), .i (eF (Th.pd (thA (tD ts th st151 p152 q153 pd154 wt158 e155 v156 yes157) th)) 0)])] 8 0 [True, ((((List.map entS (Th.pd (thA (tD ts th st151 p152 q153 pd154 wt158 e155 v156 yes157) th)))).length : Nat) : Int) = (((Th.pd (thA (tD ts th st151 p152 q153 pd154 wt158 e155 v156 yes157) th))).length : Int), ((((Th.pd (thA (tD ts th st151 p152 q153 pd154 wt158 e155 v156 yes157) th))).length : Int) != 1) = false, True, (0 : Int) ≤ 0 ∧ 0 < ((((List.map entS (Th.pd (thA (tD ts th st151 p152 q153 pd154 wt158 e155 v156 yes157) th)))).length : Nat) : Int) ∧ ((List.map entS (Th.pd (thA (tD ts th st151 p152 q153 pd154 wt158 e155 v156 yes157) th))))[(0 : Int).toNat]? = some (.agg [.u (eO (Th.pd (thA (tD ts th st151 p152 q153 pd154 wt158 e155 v156 yes157) th)) 0), .i (eF (Th.pd (thA (tD ts th st151 p152 q153 pd154 wt158 e155 v156 yes157) th)) 0)])] ⟨trivial, (by simp), bne_eq_false_iff_eq.2 (by omega), trivial, (ix_ent (by omega) (by first | omega | (simp only [len_st]; omega) | (simp; done) | (simp; omega) | (simp [len_st, len_stx, len_sty, len_zx, len_zy]; omega))), trivial⟩ ?_
         have h149 : (0 ≤ (eO (Th.pd (thA (tD ts th st151 p152 q153 pd154 wt158 e155 v156 yes157) th)) 0) ∧ (eO (Th.pd (thA (tD ts th st151 p152 q153 pd154 wt158 e155 v156 yes157) th)) 0) ≤ 18446744073709551615) ∧ (-9223372036854775808 ≤ (eF (Th.pd (thA (tD ts th st151 p152 q153 pd154 wt158 e155 v156 yes157) th)) 0) ∧ (eF (Th.pd (thA (tD ts th st151 p152 q153 pd154 wt158 e155 v156 yes157) th)) 0) ≤ 9223372036854775807) := Ents.at (by first | assumption | exact U64s.st (by assumption) _ (by omega)) _
         refine qri [(12, .f), (17, .f), (25, .agg (tc (thA ts th)))] 18 8 [True, True, ((eF (Th.pd (thA (tD ts th st151 p152 q153 pd154 wt158 e155 v156 yes157) th)) 0) != (OpV.i (o0 ts th))) = false, True, True, (decide ((OpV.h (o0 ts th)) < 0)) = false, True, True, True, (0 : Int) ≤ th ∧ th < ((((List.map thS ts)).length : Nat) : Int) ∧ ((List.map thS ts))[(th : Int).toNat]? = some (.agg (tc (thA ts th)))] ⟨trivial, trivial, bne_eq_false_iff_eq.2 (by omega), trivial, trivial, decide_eq_false (by omega), trivial, trivial, trivial, (ix_th (by omega) (by first | omega | (simp only [len_st]; omega) | (simp; done) | (simp; omega) | (simp [len_st, len_stx, len_sty, len_zx, len_zy]; omega))), trivial⟩ ?_
         have h150 : U64s (Th.st (thA ts th)) := (Ths.at (by first | assumption | exact U64s.st (by assumption) _ (by omega)) _).1
         have h151 : ((Th.st (thA ts th)).length : Int) * 8 ≤ 140737488355000 := (Ths.at (by first | assumption | exact U64s.st (by assumption) _ (by omega)) _).2.1
         have h152 : (-9223372036854775808 ≤ (Th.b0 (thA ts th)) ∧ (Th.b0 (thA ts th)) ≤ 9223372036854775807) := (Ths.at (by first | assumption | exact U64s.st (by assumption) _ (by omega)) _).2.2.1
         have h153 : (-9223372036854775808 ≤ (Th.b1 (thA ts th)) ∧ (Th.b1 (thA ts th)) ≤ 9223372036854775807) := (Ths.at (by first | assumption | exact U64s.st (by assumption) _ (by omega)) _).2.2.2.1
         have h154 : Ents (Th.lg (thA ts th)) := (Ths.at (by first | assumption | exact U64s.st (by assumption) _ (by omega)) _).2.2.2.2.1
         have h155 : ((Th.lg (thA ts th)).length : Int) * 16 ≤ 140737488355000 := (Ths.at (by first | assumption | exact U64s.st (by assumption) _ (by omega)) _).2.2.2.2.2.1
         have h156 : Ops (Th.lf (thA ts th)) := (Ths.at (by first | assumption | exact U64s.st (by assumption) _ (by omega)) _).2.2.2.2.2.2.1
         have h157 : ((Th.lf (thA ts th)).length : Int) * 64 ≤ 140737488355000 := (Ths.at (by first | assumption | exact U64s.st (by assumption) _ (by omega)) _).2.2.2.2.2.2.2.1
         have h158 : Ents (Th.pd (thA ts th)) := (Ths.at (by first | assumption | exact U64s.st (by assumption) _ (by omega)) _).2.2.2.2.2.2.2.2.1
         have h159 : ((Th.pd (thA ts th)).length : Int) * 16 ≤ 140737488355000 := (Ths.at (by first | assumption | exact U64s.st (by assumption) _ (by omega)) _).2.2.2.2.2.2.2.2.2.1
         have h160 : Anss (Th.dn (thA ts th)) := (Ths.at (by first | assumption | exact U64s.st (by assumption) _ (by omega)) _).2.2.2.2.2.2.2.2.2.2.1
         have h161 : ((Th.dn (thA ts th)).length : Int) * 24 ≤ 140737488355000 := (Ths.at (by first | assumption | exact U64s.st (by assumption) _ (by omega)) _).2.2.2.2.2.2.2.2.2.2.2
         refine qri [(28, .i (((Th.st (thA ts th))).length : Int)), (29, .f), (34, .agg [.u (eO (Th.pd (thA (tD ts th st151 p152 q153 pd154 wt158 e155 v156 yes157) th)) 0), .i (eF (Th.pd (thA (tD ts th st151 p152 q153 pd154 wt158 e155 v156 yes157) th)) 0)])] 9 26 [True, ((((m64 (Th.st (thA ts th)))).length : Nat) : Int) = (((Th.st (thA ts th))).length : Int), (decide ((((Th.st (thA ts th))).length : Int) ≤ (OpV.h (o0 ts th)))) = false, True, True, (0 : Int) ≤ 0 ∧ 0 < ((((List.map entS (Th.pd (thA (tD ts th st151 p152 q153 pd154 wt158 e155 v156 yes157) th)))).length : Nat) : Int) ∧ ((List.map entS (Th.pd (thA (tD ts th st151 p152 q153 pd154 wt158 e155 v156 yes157) th))))[(0 : Int).toNat]? = some (.agg [.u (eO (Th.pd (thA (tD ts th st151 p152 q153 pd154 wt158 e155 v156 yes157) th)) 0), .i (eF (Th.pd (thA (tD ts th st151 p152 q153 pd154 wt158 e155 v156 yes157) th)) 0)])] ⟨trivial, (by simp), decide_eq_false (by omega), trivial, trivial, (ix_ent (by omega) (by first | omega | (simp only [len_st]; omega) | (simp; done) | (simp; omega) | (simp [len_st, len_stx, len_sty, len_zx, len_zy]; omega))), trivial⟩ ?_
         have h162 : (0 ≤ (eO (Th.pd (thA (tD ts th st151 p152 q153 pd154 wt158 e155 v156 yes157) th)) 0) ∧ (eO (Th.pd (thA (tD ts th st151 p152 q153 pd154 wt158 e155 v156 yes157) th)) 0) ≤ 18446744073709551615) ∧ (-9223372036854775808 ≤ (eF (Th.pd (thA (tD ts th st151 p152 q153 pd154 wt158 e155 v156 yes157) th)) 0) ∧ (eF (Th.pd (thA (tD ts th st151 p152 q153 pd154 wt158 e155 v156 yes157) th)) 0) ≤ 9223372036854775807) := Ents.at (by first | assumption | exact U64s.st (by assumption) _ (by omega)) _
         refine qri [(40, .agg (tc (thA ts th)))] 6 35 [True, True, (0 : Int) ≤ th ∧ th < ((((List.map thS ts)).length : Nat) : Int) ∧ ((List.map thS ts))[(th : Int).toNat]? = some (.agg (tc (thA ts th)))] ⟨trivial, trivial, (ix_th (by omega) (by first | omega | (simp only [len_st]; omega) | (simp; done) | (simp; omega) | (simp [len_st, len_stx, len_sty, len_zx, len_zy]; omega))), trivial⟩ ?_
         have h163 : U64s (Th.st (thA ts th)) := (Ths.at (by first | assumption | exact U64s.st (by assumption) _ (by omega)) _).1
         have h164 : ((Th.st (thA ts th)).length : Int) * 8 ≤ 140737488355000 := (Ths.at (by first | assumption | exact U64s.st (by assumption) _ (by omega)) _).2.1
         have h165 : (-9223372036854775808 ≤ (Th.b0 (thA ts th)) ∧ (Th.b0 (thA ts th)) ≤ 9223372036854775807) := (Ths.at (by first | assumption | exact U64s.st (by assumption) _ (by omega)) _).2.2.1
         have h166 : (-9223372036854775808 ≤ (Th.b1 (thA ts th)) ∧ (Th.b1 (thA ts th)) ≤ 9223372036854775807) := (Ths.at (by first | assumption | exact U64s.st (by assumption) _ (by omega)) _).2.2.2.1
         have h167 : Ents (Th.lg (thA ts th)) := (Ths.at (by first | assumption | exact U64s.st (by assumption) _ (by omega)) _).2.2.2.2.1
         have h168 : ((Th.lg (thA ts th)).length : Int) * 16 ≤ 140737488355000 := (Ths.at (by first | assumption | exact U64s.st (by assumption) _ (by omega)) _).2.2.2.2.2.1
         have h169 : Ops (Th.lf (thA ts th)) := (Ths.at (by first | assumption | exact U64s.st (by assumption) _ (by omega)) _).2.2.2.2.2.2.1
         have h170 : ((Th.lf (thA ts th)).length : Int) * 64 ≤ 140737488355000 := (Ths.at (by first | assumption | exact U64s.st (by assumption) _ (by omega)) _).2.2.2.2.2.2.2.1
         have h171 : Ents (Th.pd (thA ts th)) := (Ths.at (by first | assumption | exact U64s.st (by assumption) _ (by omega)) _).2.2.2.2.2.2.2.2.1
         have h172 : ((Th.pd (thA ts th)).length : Int) * 16 ≤ 140737488355000 := (Ths.at (by first | assumption | exact U64s.st (by assumption) _ (by omega)) _).2.2.2.2.2.2.2.2.2.1
         have h173 : Anss (Th.dn (thA ts th)) := (Ths.at (by first | assumption | exact U64s.st (by assumption) _ (by omega)) _).2.2.2.2.2.2.2.2.2.2.1
         have h174 : ((Th.dn (thA ts th)).length : Int) * 24 ≤ 140737488355000 := (Ths.at (by first | assumption | exact U64s.st (by assumption) _ (by omega)) _).2.2.2.2.2.2.2.2.2.2.2
         refine qri [(45, .u (ix (Th.st (thA ts th)) (OpV.h (o0 ts th))))] 5 41 [True, True, (0 : Int) ≤ (OpV.h (o0 ts th)) ∧ (OpV.h (o0 ts th)) < ((((m64 (Th.st (thA ts th)))).length : Nat) : Int) ∧ ((m64 (Th.st (thA ts th))))[((OpV.h (o0 ts th)) : Int).toNat]? = some (.u (ix (Th.st (thA ts th)) (OpV.h (o0 ts th))))] ⟨trivial, trivial, (ix_ok (by omega) (by first | omega | (simp only [len_st]; omega) | (simp; done) | (simp; omega) | (simp [len_st, len_stx, len_sty, len_zx, len_zy]; omega))), trivial⟩ ?_
         have h175 : 0 ≤ (ix (Th.st (thA ts th)) (OpV.h (o0 ts th))) ∧ (ix (Th.st (thA ts th)) (OpV.h (o0 ts th))) ≤ 18446744073709551615 := U64s.ix (by first | assumption | exact U64s.st (by assumption) _ (by omega)) _
         refine qri [(47, .f)] 6 46 [True, ((eO (Th.pd (thA (tD ts th st151 p152 q153 pd154 wt158 e155 v156 yes157) th)) 0) != (ix (Th.st (thA ts th)) (OpV.h (o0 ts th)))) = false, True, True] ⟨trivial, bne_eq_false_iff_eq.2 (by omega), trivial, trivial, trivial⟩ ?_
         have h176 : (canB lm ph brk (tD ts th st151 p152 q153 pd154 wt158 e155 v156 yes157) th) = true := (can_3 ⟨(by omega), (by omega)⟩ (by omega) (by omega)).symm
         refine pqcall (args := [.agg (hp W X148 Y149 f0 F150 f2 t0 t1 t2 sz lm (tD ts th st151 p152 q153 pd154 wt158 e155 v156 yes157) ph scn fl (os ++ [th]) brk), .i th]) (args' := [.agg (hp W X148 Y149 f0 F150 f2 t0 t1 t2 sz lm (tD ts th st151 p152 q153 pd154 wt158 e155 v156 yes157) ph scn fl (os ++ [th]) brk), .i th]) (d := (some 161)) (sv := .t) (by kernel_rfl) (acan_2 W X148 Y149 f0 F150 f2 t0 t1 t2 sz lm (tD ts th st151 p152 q153 pd154 wt158 e155 v156 yes157) ph scn fl (os ++ [th]) brk th ‹_› ‹_› ‹_› ‹_› (by omega) ‹_› ‹_› ‹_› ‹_› ‹_› ‹_› ‹_› (by omega) ‹_› ‹_› ‹_› ‹_› (by omega) ‹_› ‹_› ‹_›) [(W : Int) = W, (false = true → false = true), ((m64 X148) : List SV) = (m64 X148), (false = true → false = true), ((m64 Y149) : List SV) = (m64 Y149), (f0 : Int) = f0, (F150 : Int) = F150, (f2 : Int) = f2, (t0 : Int) = t0, (t1 : Int) = t1, (t2 : Int) = t2, (sz : Int) = sz, (lm : Int) = lm, (false = true → false = true), ((List.map thS (tD ts th st151 p152 q153 pd154 wt158 e155 v156 yes157)) : List SV) = (List.map thS (tD ts th st151 p152 q153 pd154 wt158 e155 v156 yes157)), (ph : Int) = ph, (scn : Int) = scn, (fl : Int) = fl, (false = true → false = true), ((List.map (SV.int .i64) (os ++ [th])) : List SV) = (List.map (SV.int .i64) (os ++ [th])), (brk : Int) = brk, (th : Int) = th] (by kernel_rfl) ⟨rfl, id, rfl, id, rfl, rfl, rfl, rfl, rfl, rfl, rfl, rfl, rfl, id, rfl, rfl, rfl, rfl, id, rfl, rfl, rfl, trivial⟩ (by kernel_rfl) ?_
         have h177 : 0 ≤ th ∧ th < ((tD ts th st151 p152 q153 pd154 wt158 e155 v156 yes157).length : Int) := (can_is ‹_›).1
         have h178 : 0 < ((Th.pd (thA (tD ts th st151 p152 q153 pd154 wt158 e155 v156 yes157) th)).length : Int) ∨ (((Th.pd (thA (tD ts th st151 p152 q153 pd154 wt158 e155 v156 yes157) th)).length : Int) = 0 ∧ 0 < ((Th.lf (thA (tD ts th st151 p152 q153 pd154 wt158 e155 v156 yes157) th)).length : Int) ∧ ph ≠ 2) := can_nx ‹_›
         refine qri [] 2 53 [True] ⟨trivial, trivial⟩ ?_
         refine qen ?_
         refine an ?_
         refine cf ?_
         refine xw_skip ?_
         refine an ?_
         refine xw_seq ?_
         refine reg ?_
         refine rk [] 2 0 ⟨[(165, .i th), (164, .agg (hp W X148 Y149 f0 F150 f2 t0 t1 t2 sz lm (tD ts th st151 p152 q153 pd154 wt158 e155 v156 yes157) ph scn fl (os ++ [th]) brk)), (8, .p 2), (7, .p 1), (5, .t), (4, .f), (1, .i th)], [(2, .cells (tc (thA (tD ts th st151 p152 q153 pd154 wt158 e155 v156 yes157) th)) 44), (1, .cells (hp W X148 Y149 f0 F150 f2 t0 t1 t2 sz lm (tD ts th st151 p152 q153 pd154 wt158 e155 v156 yes157) ph scn fl (os ++ [th]) brk) 32)], 4⟩ [True] ⟨trivial, trivial⟩ ?_
         refine pcall (args := [.agg (hp W X148 Y149 f0 F150 f2 t0 t1 t2 sz lm (tD ts th st151 p152 q153 pd154 wt158 e155 v156 yes157) ph scn fl (os ++ [th]) brk), .i th]) (args' := [.agg (hp W X148 Y149 f0 F150 f2 t0 t1 t2 sz lm (tD ts th st151 p152 q153 pd154 wt158 e155 v156 yes157) ph scn fl (os ++ [th]) brk), .i th]) (d := (some 166)) (by kernel_rfl) (ado W X148 Y149 f0 F150 f2 t0 t1 t2 sz lm (tD ts th st151 p152 q153 pd154 wt158 e155 v156 yes157) ph scn fl (os ++ [th]) brk th ‹_› ‹_› ‹_› ‹_› (by omega) ‹_› ‹_› ‹_› ‹_› ‹_› ‹_› ‹_› (by omega) ‹_› ‹_› ‹_› ‹_› (by omega) ‹_› ‹_› (by omega) (by omega) (by omega) ‹_›) [(W : Int) = W, (false = true → false = true), ((m64 X148) : List SV) = (m64 X148), (false = true → false = true), ((m64 Y149) : List SV) = (m64 Y149), (f0 : Int) = f0, (F150 : Int) = F150, (f2 : Int) = f2, (t0 : Int) = t0, (t1 : Int) = t1, (t2 : Int) = t2, (sz : Int) = sz, (lm : Int) = lm, (false = true → false = true), ((List.map thS (tD ts th st151 p152 q153 pd154 wt158 e155 v156 yes157)) : List SV) = (List.map thS (tD ts th st151 p152 q153 pd154 wt158 e155 v156 yes157)), (ph : Int) = ph, (scn : Int) = scn, (fl : Int) = fl, (false = true → false = true), ((List.map (SV.int .i64) (os ++ [th])) : List SV) = (List.map (SV.int .i64) (os ++ [th])), (brk : Int) = brk, (th : Int) = th] (by kernel_rfl) ⟨rfl, id, rfl, id, rfl, rfl, rfl, rfl, rfl, rfl, rfl, rfl, rfl, id, rfl, rfl, rfl, rfl, id, rfl, rfl, rfl, trivial⟩ (by kernel_rfl) ?_
         rintro _ (⟨h179, rfl⟩ | ⟨h179, h180, rfl⟩ | ⟨X1179, Y1180, F1181, st1182, p1183, q1184, pd1185, e1186, v1187, yes1188, wt1189, h190, h191, h192, h193, rfl⟩ | ⟨X1179, Y1180, F1181, st1182, p1183, q1184, pd1185, e1186, v1187, yes1188, wt1189, h190, h191, h192, h193, rfl⟩)
         ·
          exfalso; first | omega | (simp_all; done) | (simp_all; omega) | grind
         ·
          have h181 : Ths (tP (tD ts th st151 p152 q153 pd154 wt158 e155 v156 yes157) th) := (ths_set ‹_› (th_pend (Ths.at ‹Ths (tD ts th st151 p152 q153 pd154 wt158 e155 v156 yes157)› th) (by omega)))
          have h182 : ((tP (tD ts th st151 p152 q153 pd154 wt158 e155 v156 yes157) th).length : Int) = ((tD ts th st151 p152 q153 pd154 wt158 e155 v156 yes157).length : Int) := len_set
          have h183 : ((Th.lg (thA (tP (tD ts th st151 p152 q153 pd154 wt158 e155 v156 yes157) th) th)).length : Int) = ((Th.lg (thA (tD ts th st151 p152 q153 pd154 wt158 e155 v156 yes157) th)).length : Int) + 1 := (by rw [th_set (by omega) (by omega)]; try first | assumption | (simp; done) | (simp; omega))
          have h184 : ((Th.pd (thA (tP (tD ts th st151 p152 q153 pd154 wt158 e155 v156 yes157) th) th)).length : Int) = 0 := (by rw [th_set (by omega) (by omega)]; try first | assumption | (simp; done) | (simp; omega))
          have h185 : (eO (Th.lg (thA (tP (tD ts th st151 p152 q153 pd154 wt158 e155 v156 yes157) th) th)) (((Th.lg (thA (tP (tD ts th st151 p152 q153 pd154 wt158 e155 v156 yes157) th) th)).length : Int) - 1)) = (eO (Th.pd (thA (tD ts th st151 p152 q153 pd154 wt158 e155 v156 yes157) th)) 0) := (by rw [th_set (by omega) (by omega)]; exact eO_last)
          have h186 : (eF (Th.lg (thA (tP (tD ts th st151 p152 q153 pd154 wt158 e155 v156 yes157) th) th)) (((Th.lg (thA (tP (tD ts th st151 p152 q153 pd154 wt158 e155 v156 yes157) th) th)).length : Int) - 1)) = (eF (Th.pd (thA (tD ts th st151 p152 q153 pd154 wt158 e155 v156 yes157) th)) 0) := (by rw [th_set (by omega) (by omega)]; exact eF_last)
          refine rki [] 2 3 [10, 8, 7, 5, 4, 1] [4, 2, 1] [True] ⟨trivial, trivial⟩ ?_
          refine en ?_
          refine an ?_
          refine xw_seq ?_
          refine rgi [(2, .i (((tP (tD ts th st151 p152 q153 pd154 wt158 e155 v156 yes157) th)).length : Int)), (5, .i (((tD ts th st151 p152 q153 pd154 wt158 e155 v156 yes157)).length : Int)), (6, .f)] 7 [173, 10, 8, 7, 5, 4, 1] [4, 2, 1] [True, ((((List.map thS (tP (tD ts th st151 p152 q153 pd154 wt158 e155 v156 yes157) th))).length : Nat) : Int) = (((tP (tD ts th st151 p152 q153 pd154 wt158 e155 v156 yes157) th)).length : Int), True, ((((List.map thS (tD ts th st151 p152 q153 pd154 wt158 e155 v156 yes157))).length : Nat) : Int) = (((tD ts th st151 p152 q153 pd154 wt158 e155 v156 yes157)).length : Int), ((((tP (tD ts th st151 p152 q153 pd154 wt158 e155 v156 yes157) th)).length : Int) != (((tD ts th st151 p152 q153 pd154 wt158 e155 v156 yes157)).length : Int)) = false] ⟨trivial, (by simp), trivial, (by simp), bne_eq_false_iff_eq.2 (by omega), trivial⟩ ?_
          refine cf ?_
          refine xw_skip ?_
          refine an ?_
          refine xw_seq ?_
          refine reg ?_
          refine rki [(3, .agg (tc (thA (tP (tD ts th st151 p152 q153 pd154 wt158 e155 v156 yes157) th) th)))] 4 0 [177, 10, 8, 7, 5, 4, 1] [4, 2, 1] [True, (0 : Int) ≤ th ∧ th < ((((List.map thS (tP (tD ts th st151 p152 q153 pd154 wt158 e155 v156 yes157) th))).length : Nat) : Int) ∧ ((List.map thS (tP (tD ts th st151 p152 q153 pd154 wt158 e155 v156 yes157) th)))[(th : Int).toNat]? = some (.agg (tc (thA (tP (tD ts th st151 p152 q153 pd154 wt158 e155 v156 yes157) th) th)))] ⟨trivial, (ix_th (by omega) (by first | omega | (simp only [len_st]; omega) | (simp; done) | (simp; omega) | (simp [len_st, len_stx, len_sty, len_zx, len_zy]; omega))), trivial⟩ ?_
          have h187 : U64s (Th.st (thA (tP (tD ts th st151 p152 q153 pd154 wt158 e155 v156 yes157) th) th)) := (Ths.at (by first | assumption | exact U64s.st (by assumption) _ (by omega)) _).1
          have h188 : ((Th.st (thA (tP (tD ts th st151 p152 q153 pd154 wt158 e155 v156 yes157) th) th)).length : Int) * 8 ≤ 140737488355000 := (Ths.at (by first | assumption | exact U64s.st (by assumption) _ (by omega)) _).2.1
          have h189 : (-9223372036854775808 ≤ (Th.b0 (thA (tP (tD ts th st151 p152 q153 pd154 wt158 e155 v156 yes157) th) th)) ∧ (Th.b0 (thA (tP (tD ts th st151 p152 q153 pd154 wt158 e155 v156 yes157) th) th)) ≤ 9223372036854775807) := (Ths.at (by first | assumption | exact U64s.st (by assumption) _ (by omega)) _).2.2.1
          have h190 : (-9223372036854775808 ≤ (Th.b1 (thA (tP (tD ts th st151 p152 q153 pd154 wt158 e155 v156 yes157) th) th)) ∧ (Th.b1 (thA (tP (tD ts th st151 p152 q153 pd154 wt158 e155 v156 yes157) th) th)) ≤ 9223372036854775807) := (Ths.at (by first | assumption | exact U64s.st (by assumption) _ (by omega)) _).2.2.2.1
          have h191 : Ents (Th.lg (thA (tP (tD ts th st151 p152 q153 pd154 wt158 e155 v156 yes157) th) th)) := (Ths.at (by first | assumption | exact U64s.st (by assumption) _ (by omega)) _).2.2.2.2.1
          have h192 : ((Th.lg (thA (tP (tD ts th st151 p152 q153 pd154 wt158 e155 v156 yes157) th) th)).length : Int) * 16 ≤ 140737488355000 := (Ths.at (by first | assumption | exact U64s.st (by assumption) _ (by omega)) _).2.2.2.2.2.1
          have h193 : Ops (Th.lf (thA (tP (tD ts th st151 p152 q153 pd154 wt158 e155 v156 yes157) th) th)) := (Ths.at (by first | assumption | exact U64s.st (by assumption) _ (by omega)) _).2.2.2.2.2.2.1
          have h194 : ((Th.lf (thA (tP (tD ts th st151 p152 q153 pd154 wt158 e155 v156 yes157) th) th)).length : Int) * 64 ≤ 140737488355000 := (Ths.at (by first | assumption | exact U64s.st (by assumption) _ (by omega)) _).2.2.2.2.2.2.2.1
          have h195 : Ents (Th.pd (thA (tP (tD ts th st151 p152 q153 pd154 wt158 e155 v156 yes157) th) th)) := (Ths.at (by first | assumption | exact U64s.st (by assumption) _ (by omega)) _).2.2.2.2.2.2.2.2.1
          have h196 : ((Th.pd (thA (tP (tD ts th st151 p152 q153 pd154 wt158 e155 v156 yes157) th) th)).length : Int) * 16 ≤ 140737488355000 := (Ths.at (by first | assumption | exact U64s.st (by assumption) _ (by omega)) _).2.2.2.2.2.2.2.2.2.1
          have h197 : Anss (Th.dn (thA (tP (tD ts th st151 p152 q153 pd154 wt158 e155 v156 yes157) th) th)) := (Ths.at (by first | assumption | exact U64s.st (by assumption) _ (by omega)) _).2.2.2.2.2.2.2.2.2.2.1
          have h198 : ((Th.dn (thA (tP (tD ts th st151 p152 q153 pd154 wt158 e155 v156 yes157) th) th)).length : Int) * 24 ≤ 140737488355000 := (Ths.at (by first | assumption | exact U64s.st (by assumption) _ (by omega)) _).2.2.2.2.2.2.2.2.2.2.2
          refine rk [] 3 4 ⟨[(11, (sE (Th.lg (thA (tP (tD ts th st151 p152 q153 pd154 wt158 e155 v156 yes157) th) th)))), (10, .p 4), (8, .p 2), (7, .p 1), (5, .t), (4, .f), (1, .i th)], [(4, .cells (hp W X148 Y149 f0 F150 f2 t0 t1 t2 sz lm (tP (tD ts th st151 p152 q153 pd154 wt158 e155 v156 yes157) th) ph scn fl (os ++ [th]) brk) 32), (2, .cells (tc (thA (tD ts th st151 p152 q153 pd154 wt158 e155 v156 yes157) th)) 44), (1, .cells (hp W X148 Y149 f0 F150 f2 t0 t1 t2 sz lm (tD ts th st151 p152 q153 pd154 wt158 e155 v156 yes157) ph scn fl (os ++ [th]) brk) 32)], 5⟩ [True] ⟨trivial, trivial⟩ ?_
          refine en ?_
          refine an ?_
          refine xw_seq ?_
          refine dregk hmix (by kernel_rfl) ?_
          refine qri [(3, .i (((Th.lg (thA (tP (tD ts th st151 p152 q153 pd154 wt158 e155 v156 yes157) th) th))).length : Int)), (6, .i (((Th.lg (thA (tD ts th st151 p152 q153 pd154 wt158 e155 v156 yes157) th))).length : Int)), (7, .i ((((Th.lg (thA (tD ts th st151 p152 q153 pd154 wt158 e155 v156 yes157) th))).length : Int) + 1)), (8, .t), (13, .i (((Th.lg (thA (tP (tD ts th st151 p152 q153 pd154 wt158 e155 v156 yes157) th) th))).length : Int)), (14, .i ((((Th.lg (thA (tP (tD ts th st151 p152 q153 pd154 wt158 e155 v156 yes157) th) th))).length : Int) - 1)), (15, .agg [.u (eO (Th.lg (thA (tP (tD ts th st151 p152 q153 pd154 wt158 e155 v156 yes157) th) th)) ((((Th.lg (thA (tP (tD ts th st151 p152 q153 pd154 wt158 e155 v156 yes157) th) th))).length : Int) - 1)), .i (eF (Th.lg (thA (tP (tD ts th st151 p152 q153 pd154 wt158 e155 v156 yes157) th) th)) ((((Th.lg (thA (tP (tD ts th st151 p152 q153 pd154 wt158 e155 v156 yes157) th) th))).length : Int) - 1))])] 16 0 [((((List.map entS (Th.lg (thA (tP (tD ts th st151 p152 q153 pd154 wt158 e155 v156 yes157) th) th)))).length : Nat) : Int) = (((Th.lg (thA (tP (tD ts th st151 p152 q153 pd154 wt158 e155 v156 yes157) th) th))).length : Int), True, ((((List.map entS (Th.lg (thA (tD ts th st151 p152 q153 pd154 wt158 e155 v156 yes157) th)))).length : Nat) : Int) = (((Th.lg (thA (tD ts th st151 p152 q153 pd154 wt158 e155 v156 yes157) th))).length : Int), IntKind.i64.wrap ((((Th.lg (thA (tD ts th st151 p152 q153 pd154 wt158 e155 v156 yes157) th))).length : Int) + 1) = ((((Th.lg (thA (tD ts th st151 p152 q153 pd154 wt158 e155 v156 yes157) th))).length : Int) + 1), ((((Th.lg (thA (tP (tD ts th st151 p152 q153 pd154 wt158 e155 v156 yes157) th) th))).length : Int) == ((((Th.lg (thA (tD ts th st151 p152 q153 pd154 wt158 e155 v156 yes157) th))).length : Int) + 1)) = true, True, ((((List.map entS (Th.lg (thA (tP (tD ts th st151 p152 q153 pd154 wt158 e155 v156 yes157) th) th)))).length : Nat) : Int) = (((Th.lg (thA (tP (tD ts th st151 p152 q153 pd154 wt158 e155 v156 yes157) th) th))).length : Int), IntKind.i64.wrap ((((Th.lg (thA (tP (tD ts th st151 p152 q153 pd154 wt158 e155 v156 yes157) th) th))).length : Int) - 1) = ((((Th.lg (thA (tP (tD ts th st151 p152 q153 pd154 wt158 e155 v156 yes157) th) th))).length : Int) - 1), (0 : Int) ≤ ((((Th.lg (thA (tP (tD ts th st151 p152 q153 pd154 wt158 e155 v156 yes157) th) th))).length : Int) - 1) ∧ ((((Th.lg (thA (tP (tD ts th st151 p152 q153 pd154 wt158 e155 v156 yes157) th) th))).length : Int) - 1) < ((((List.map entS (Th.lg (thA (tP (tD ts th st151 p152 q153 pd154 wt158 e155 v156 yes157) th) th)))).length : Nat) : Int) ∧ ((List.map entS (Th.lg (thA (tP (tD ts th st151 p152 q153 pd154 wt158 e155 v156 yes157) th) th))))[(((((Th.lg (thA (tP (tD ts th st151 p152 q153 pd154 wt158 e155 v156 yes157) th) th))).length : Int) - 1) : Int).toNat]? = some (.agg [.u (eO (Th.lg (thA (tP (tD ts th st151 p152 q153 pd154 wt158 e155 v156 yes157) th) th)) ((((Th.lg (thA (tP (tD ts th st151 p152 q153 pd154 wt158 e155 v156 yes157) th) th))).length : Int) - 1)), .i (eF (Th.lg (thA (tP (tD ts th st151 p152 q153 pd154 wt158 e155 v156 yes157) th) th)) ((((Th.lg (thA (tP (tD ts th st151 p152 q153 pd154 wt158 e155 v156 yes157) th) th))).length : Int) - 1))])] ⟨(by simp), trivial, (by simp), i64_eq (by omega) (by omega), beq_iff_eq.2 (by omega), trivial, (by simp), i64_eq (by omega) (by omega), (ix_ent (by omega) (by first | omega | (simp only [len_st]; omega) | (simp; done) | (simp; omega) | (simp [len_st, len_stx, len_sty, len_zx, len_zy]; omega))), trivial⟩ ?_
          have h199 : (0 ≤ (eO (Th.lg (thA (tP (tD ts th st151 p152 q153 pd154 wt158 e155 v156 yes157) th) th)) ((((Th.lg (thA (tP (tD ts th st151 p152 q153 pd154 wt158 e155 v156 yes157) th) th))).length : Int) - 1)) ∧ (eO (Th.lg (thA (tP (tD ts th st151 p152 q153 pd154 wt158 e155 v156 yes157) th) th)) ((((Th.lg (thA (tP (tD ts th st151 p152 q153 pd154 wt158 e155 v156 yes157) th) th))).length : Int) - 1)) ≤ 18446744073709551615) ∧ (-9223372036854775808 ≤ (eF (Th.lg (thA (tP (tD ts th st151 p152 q153 pd154 wt158 e155 v156 yes157) th) th)) ((((Th.lg (thA (tP (tD ts th st151 p152 q153 pd154 wt158 e155 v156 yes157) th) th))).length : Int) - 1)) ∧ (eF (Th.lg (thA (tP (tD ts th st151 p152 q153 pd154 wt158 e155 v156 yes157) th) th)) ((((Th.lg (thA (tP (tD ts th st151 p152 q153 pd154 wt158 e155 v156 yes157) th) th))).length : Int) - 1)) ≤ 9223372036854775807) := Ents.at (by first | assumption | exact U64s.st (by assumption) _ (by omega)) _
          refine qri [(19, .agg [.u (eO (Th.pd (thA (tD ts th st151 p152 q153 pd154 wt158 e155 v156 yes157) th)) 0), .i (eF (Th.pd (thA (tD ts th st151 p152 q153 pd154 wt158 e155 v156 yes157) th)) 0)])] 4 16 [True, True, (0 : Int) ≤ 0 ∧ 0 < ((((List.map entS (Th.pd (thA (tD ts th st151 p152 q153 pd154 wt158 e155 v156 yes157) th)))).length : Nat) : Int) ∧ ((List.map entS (Th.pd (thA (tD ts th st151 p152 q153 pd154 wt158 e155 v156 yes157) th))))[(0 : Int).toNat]? = some (.agg [.u (eO (Th.pd (thA (tD ts th st151 p152 q153 pd154 wt158 e155 v156 yes157) th)) 0), .i (eF (Th.pd (thA (tD ts th st151 p152 q153 pd154 wt158 e155 v156 yes157) th)) 0)])] ⟨trivial, trivial, (ix_ent (by omega) (by first | omega | (simp only [len_st]; omega) | (simp; done) | (simp; omega) | (simp [len_st, len_stx, len_sty, len_zx, len_zy]; omega))), trivial⟩ ?_
          have h200 : (0 ≤ (eO (Th.pd (thA (tD ts th st151 p152 q153 pd154 wt158 e155 v156 yes157) th)) 0) ∧ (eO (Th.pd (thA (tD ts th st151 p152 q153 pd154 wt158 e155 v156 yes157) th)) 0) ≤ 18446744073709551615) ∧ (-9223372036854775808 ≤ (eF (Th.pd (thA (tD ts th st151 p152 q153 pd154 wt158 e155 v156 yes157) th)) 0) ∧ (eF (Th.pd (thA (tD ts th st151 p152 q153 pd154 wt158 e155 v156 yes157) th)) 0) ≤ 9223372036854775807) := Ents.at (by first | assumption | exact U64s.st (by assumption) _ (by omega)) _
          refine qri [(21, .t), (27, .agg (tc (thA (tP (tD ts th st151 p152 q153 pd154 wt158 e155 v156 yes157) th) th)))] 8 20 [True, (((eO (Th.lg (thA (tP (tD ts th st151 p152 q153 pd154 wt158 e155 v156 yes157) th) th)) ((((Th.lg (thA (tP (tD ts th st151 p152 q153 pd154 wt158 e155 v156 yes157) th) th))).length : Int) - 1)) == (eO (Th.pd (thA (tD ts th st151 p152 q153 pd154 wt158 e155 v156 yes157) th)) 0)) && (((eF (Th.lg (thA (tP (tD ts th st151 p152 q153 pd154 wt158 e155 v156 yes157) th) th)) ((((Th.lg (thA (tP (tD ts th st151 p152 q153 pd154 wt158 e155 v156 yes157) th) th))).length : Int) - 1)) == (eF (Th.pd (thA (tD ts th st151 p152 q153 pd154 wt158 e155 v156 yes157) th)) 0)) && true)) = true, True, True, (0 : Int) ≤ th ∧ th < ((((List.map thS (tP (tD ts th st151 p152 q153 pd154 wt158 e155 v156 yes157) th))).length : Nat) : Int) ∧ ((List.map thS (tP (tD ts th st151 p152 q153 pd154 wt158 e155 v156 yes157) th)))[(th : Int).toNat]? = some (.agg (tc (thA (tP (tD ts th st151 p152 q153 pd154 wt158 e155 v156 yes157) th) th)))] ⟨trivial, (by first | (simp <;> omega) | (simp only [Bool.not_eq_eq_eq_not, Bool.not_true, Bool.not_false, Bool.and_eq_true, beq_iff_eq, and_true]; and_intros <;> first | omega | assumption)), trivial, trivial, (ix_th (by omega) (by first | omega | (simp only [len_st]; omega) | (simp; done) | (simp; omega) | (simp [len_st, len_stx, len_sty, len_zx, len_zy]; omega))), trivial⟩ ?_
          have h201 : U64s (Th.st (thA (tP (tD ts th st151 p152 q153 pd154 wt158 e155 v156 yes157) th) th)) := (Ths.at (by first | assumption | exact U64s.st (by assumption) _ (by omega)) _).1
          have h202 : ((Th.st (thA (tP (tD ts th st151 p152 q153 pd154 wt158 e155 v156 yes157) th) th)).length : Int) * 8 ≤ 140737488355000 := (Ths.at (by first | assumption | exact U64s.st (by assumption) _ (by omega)) _).2.1
          have h203 : (-9223372036854775808 ≤ (Th.b0 (thA (tP (tD ts th st151 p152 q153 pd154 wt158 e155 v156 yes157) th) th)) ∧ (Th.b0 (thA (tP (tD ts th st151 p152 q153 pd154 wt158 e155 v156 yes157) th) th)) ≤ 9223372036854775807) := (Ths.at (by first | assumption | exact U64s.st (by assumption) _ (by omega)) _).2.2.1
          have h204 : (-9223372036854775808 ≤ (Th.b1 (thA (tP (tD ts th st151 p152 q153 pd154 wt158 e155 v156 yes157) th) th)) ∧ (Th.b1 (thA (tP (tD ts th st151 p152 q153 pd154 wt158 e155 v156 yes157) th) th)) ≤ 9223372036854775807) := (Ths.at (by first | assumption | exact U64s.st (by assumption) _ (by omega)) _).2.2.2.1
          have h205 : Ents (Th.lg (thA (tP (tD ts th st151 p152 q153 pd154 wt158 e155 v156 yes157) th) th)) := (Ths.at (by first | assumption | exact U64s.st (by assumption) _ (by omega)) _).2.2.2.2.1
          have h206 : ((Th.lg (thA (tP (tD ts th st151 p152 q153 pd154 wt158 e155 v156 yes157) th) th)).length : Int) * 16 ≤ 140737488355000 := (Ths.at (by first | assumption | exact U64s.st (by assumption) _ (by omega)) _).2.2.2.2.2.1
          have h207 : Ops (Th.lf (thA (tP (tD ts th st151 p152 q153 pd154 wt158 e155 v156 yes157) th) th)) := (Ths.at (by first | assumption | exact U64s.st (by assumption) _ (by omega)) _).2.2.2.2.2.2.1
          have h208 : ((Th.lf (thA (tP (tD ts th st151 p152 q153 pd154 wt158 e155 v156 yes157) th) th)).length : Int) * 64 ≤ 140737488355000 := (Ths.at (by first | assumption | exact U64s.st (by assumption) _ (by omega)) _).2.2.2.2.2.2.2.1
          have h209 : Ents (Th.pd (thA (tP (tD ts th st151 p152 q153 pd154 wt158 e155 v156 yes157) th) th)) := (Ths.at (by first | assumption | exact U64s.st (by assumption) _ (by omega)) _).2.2.2.2.2.2.2.2.1
          have h210 : ((Th.pd (thA (tP (tD ts th st151 p152 q153 pd154 wt158 e155 v156 yes157) th) th)).length : Int) * 16 ≤ 140737488355000 := (Ths.at (by first | assumption | exact U64s.st (by assumption) _ (by omega)) _).2.2.2.2.2.2.2.2.2.1
          have h211 : Anss (Th.dn (thA (tP (tD ts th st151 p152 q153 pd154 wt158 e155 v156 yes157) th) th)) := (Ths.at (by first | assumption | exact U64s.st (by assumption) _ (by omega)) _).2.2.2.2.2.2.2.2.2.2.1
          have h212 : ((Th.dn (thA (tP (tD ts th st151 p152 q153 pd154 wt158 e155 v156 yes157) th) th)).length : Int) * 24 ≤ 140737488355000 := (Ths.at (by first | assumption | exact U64s.st (by assumption) _ (by omega)) _).2.2.2.2.2.2.2.2.2.2.2
          refine qri [(30, .i (((Th.pd (thA (tP (tD ts th st151 p152 q153 pd154 wt158 e155 v156 yes157) th) th))).length : Int)), (31, .t), (36, .i (((os ++ [th])).length : Int)), (39, .i (((os ++ [th])).length : Int)), (40, .t)] 15 28 [True, ((((List.map entS (Th.pd (thA (tP (tD ts th st151 p152 q153 pd154 wt158 e155 v156 yes157) th) th)))).length : Nat) : Int) = (((Th.pd (thA (tP (tD ts th st151 p152 q153 pd154 wt158 e155 v156 yes157) th) th))).length : Int), ((((Th.pd (thA (tP (tD ts th st151 p152 q153 pd154 wt158 e155 v156 yes157) th) th))).length : Int) == 0) = true, True, True, ((((List.map (SV.int .i64) (os ++ [th]))).length : Nat) : Int) = (((os ++ [th])).length : Int), True, ((((List.map (SV.int .i64) (os ++ [th]))).length : Nat) : Int) = (((os ++ [th])).length : Int), ((((os ++ [th])).length : Int) == (((os ++ [th])).length : Int)) = true, True] ⟨trivial, (by simp), beq_iff_eq.2 (by omega), trivial, trivial, (by simp), trivial, (by simp), beq_iff_eq.2 (by omega), trivial, trivial⟩ ?_
          refine qen ?_
          refine an ?_
          refine xw_ret ?_
          exact bs (.t) rfl
         ·
          exfalso; first | omega | (simp_all; done) | (simp_all; omega) | grind
         ·
          exfalso; first | omega | (simp_all; done) | (simp_all; omega) | grind
    ·
     exfalso; first | omega | (simp_all; done) | (simp_all; omega) | grind
 ·
  refine pc (fewB_2 W xs ys f0 f1 f2 t0 t1 t2 sz lm ts ph scn fl os brk ‹_› ‹_› ‹_› ‹_› ‹_› ‹_› ‹_› ‹_› ‹_› ‹_› ‹_› ‹_› (by omega) ‹_› ‹_› ‹_› ‹_› (by omega) ‹_› ‹_›) ?_
  refine rk [] 1 2 ⟨[(6, .f), (5, .t), (4, .f), (2, .p 0), (1, .i th)], [(0, .cells (hp W xs ys f0 f1 f2 t0 t1 t2 sz lm ts ph scn fl os brk) 32)], 1⟩ [] trivial ?_
  refine en ?_
  refine an ?_
  refine xw_seq ?_
  refine rgi [] 35 [49, 5, 4, 2, 1] [0] [True, True, True, True] ⟨trivial, trivial, trivial, trivial, trivial⟩ ?_
  refine ct ?_
  refine rgi [] 2 [4, 5, 2, 1] [0] [] trivial ?_
  refine xw_ret ?_
  refine an_ret ?_
  exact bs (.t) rfl

end Go.Proofs.Ytjchmajamlehmaa.X
