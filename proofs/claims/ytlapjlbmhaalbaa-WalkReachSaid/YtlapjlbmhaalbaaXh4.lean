/- Contracts of Go functions: what each returns, for every input that its premises name; no memory of the caller is touched. Printed by a program. -/
import Derived.Test.YtlapjlbmhaalbaaXh2
import Derived.Test.YtlapjlbmhaalbaaXu5
import Derived.Test.YtlapjlbmhaalbaaXr1
namespace Go.Proofs.Ytlapjlbmhaalbaa.X
open Go Go.RowKit
set_option linter.unusedVariables false      -- a premise may serve only to tell which way is taken
set_option linter.unusedSimpArgs false
set_option maxHeartbeats 8000000 in
theorem visit (W : Int) (xs ys : List Int) (hp0 : 16 ≤ W ∧ W ≤ 4096) (hp1 : (xs.length : Int) = W) (hp2 : (ys.length : Int) = W) (hp3 : U64s xs) (hp4 : U64s ys) : ∀ (n : Nat) (o : List Int) (a : Int), (Vk W xs ys o) → ((fre W xs ys o) < (n : Int)) → (0 ≤ a ∧ a ≤ 18446744073709551615) → MCall Try.prog 27 [.u a, .p 0, .p 1, .p 2, .p 3] [(5, .row 1 35 (m64 o)), (4, .mp true .u64 (mpT o)), (3, .cells [.fn 27 [] [.p 0, .p 1, .p 2, .p 3]] 63), (2, .cells [.own 5] 22), (1, .cells [.own 4] 51), (0, .cells (mm W xs ys) 25)] 6 5 (fun sv m => sv = .tup [] ∧ m = [(5, .row 1 35 (m64 (vis W xs ys n o a))), (4, .mp true .u64 (mpT (vis W xs ys n o a))), (3, .cells [.fn 27 [] [.p 0, .p 1, .p 2, .p 3]] 63), (2, .cells [.own 5] 22), (1, .cells [.own 4] 51), (0, .cells (mm W xs ys) 25)]) := by
 intro n
 induction n with
 | zero => intro o a hq0 hq1 hq2; exfalso; have := fre_0 (W := W) (xs := xs) (ys := ys) (o := o); omega
 | succ n ih =>
  intro o a hq0 hq1 hq2
  replace hq0 : Vk W xs ys o := by first | exact hq0 | omega
  replace hq1 : (fre W xs ys o) < (n : Int) + 1 := by first | exact hq1 | omega
  replace hq2 : 0 ≤ a ∧ a ≤ 18446744073709551615 := by first | exact hq2 | omega
  refine mcall_of (by kernel_rfl) (by kernel_rfl) (xcall_of TT_ok Try.func27 rfl (by decide) (Nat.le_of_ble_eq_true (by kernel_rfl)) ?_)
  refine xw_seq ?_
  refine xw_seq ?_
  refine reg ?_
  refine rk [] 2 0 ⟨[(11, .u a), (10, .agg (mm W xs ys)), (0, .u a), (1, .p 0), (2, .p 1), (3, .p 2), (4, .p 3)], [(5, .row 1 35 (m64 o)), (4, .mp true .u64 (mpT o)), (3, .cells [.fn 27 [] [.p 0, .p 1, .p 2, .p 3]] 63), (2, .cells [.own 5] 22), (1, .cells [.own 4] 51), (0, .cells (mm W xs ys) 25)], 6⟩ [True] ⟨trivial, trivial⟩ ?_
  by_cases h0 : (oErr W xs ys a) = 0
  ·
   refine pc (oat_1 W xs ys a ‹_› ‹_› ‹_› ‹_› ‹_› ‹_› ‹_›) ?_
   obtain ⟨h1, h2, h3⟩ := oErr_ok W xs ys a ‹_›
   refine rk [] 6 3 ⟨[(7, .i 0), (0, .u a), (1, .p 0), (2, .p 1), (3, .p 2), (4, .p 3)], [(5, .row 1 35 (m64 o)), (4, .mp true .u64 (mpT o)), (3, .cells [.fn 27 [] [.p 0, .p 1, .p 2, .p 3]] 63), (2, .cells [.own 5] 22), (1, .cells [.own 4] 51), (0, .cells (mm W xs ys) 25)], 7⟩ [True] ⟨trivial, trivial⟩ ?_
   refine en ?_
   refine an ?_
   refine xw_seq ?_
   refine reg ?_
   refine rk [(1, .f)] 5 0 ⟨[(19, .u a), (18, .agg (mm W xs ys)), (17, .f), (0, .u a), (1, .p 0), (2, .p 1), (3, .p 2), (4, .p 3)], [(5, .row 1 35 (m64 o)), (4, .mp true .u64 (mpT o)), (3, .cells [.fn 27 [] [.p 0, .p 1, .p 2, .p 3]] 63), (2, .cells [.own 5] 22), (1, .cells [.own 4] 51), (0, .cells (mm W xs ys) 25)], 7⟩ [(0 != 0) = false, True] ⟨bne_eq_false_iff_eq.2 (by omega), trivial, trivial⟩ ?_
   refine pc (wfiller W xs ys a ‹_› ‹_› ‹_› ‹_› ‹_› ‹_›) ?_
   have h4 : (o.length : Int) ≤ 8192 := vk_len ‹_›
   have h5 : U64s o := ‹Vk W xs ys o›.1
   refine rk [] 2 6 ⟨[(22, .bool (isFil W xs ys a)), (0, .u a), (1, .p 0), (2, .p 1), (3, .p 2), (4, .p 3)], [(5, .row 1 35 (m64 o)), (4, .mp true .u64 (mpT o)), (3, .cells [.fn 27 [] [.p 0, .p 1, .p 2, .p 3]] 63), (2, .cells [.own 5] 22), (1, .cells [.own 4] 51), (0, .cells (mm W xs ys) 25)], 7⟩ [True] ⟨trivial, trivial⟩ ?_
   refine splitr 22 (x := (isFil W xs ys a)) (by kernel_rfl) (fun h6 => ?_) (fun h6 => ?_)
   ·
    replace h6 : isFil W xs ys a = true := h6
    refine rk [] 4 8 ⟨[(26, .t), (0, .u a), (1, .p 0), (2, .p 1), (3, .p 2), (4, .p 3)], [(5, .row 1 35 (m64 o)), (4, .mp true .u64 (mpT o)), (3, .cells [.fn 27 [] [.p 0, .p 1, .p 2, .p 3]] 63), (2, .cells [.own 5] 22), (1, .cells [.own 4] 51), (0, .cells (mm W xs ys) 25)], 7⟩ [True] ⟨trivial, trivial⟩ ?_
    refine en ?_
    refine an ?_
    refine ct ?_
    refine xw_ret ?_
    refine an_ret ?_
    exact ⟨.tup [], by kernel_rfl, _, ⟨rfl, rfl⟩, rfl, le_of [] [((m64 o) : List SV) = (m64 (vis W xs ys (n + 1) o a)), ((mpT o) : List (Int × SV)) = (mpT (vis W xs ys (n + 1) o a)), (W : Int) = W, (false = true → false = true), ((m64 xs) : List SV) = (m64 xs), (false = true → false = true), ((m64 ys) : List SV) = (m64 ys)] (by kernel_rfl) ⟨(by first | rfl | exact congrArg _ (vis_n1 (by omega)) | exact congrArg _ (vis_n2 ‹_›) | exact congrArg _ (vis_n3 ‹_›) | exact congrArg _ (vis_end (k := k1) (by omega) ‹_› ‹_› (by omega)) | exact congrArg _ (vis_end (k := 0) (by omega) ‹_› ‹_› (by omega))), (by first | rfl | exact congrArg _ (vis_n1 (by omega)) | exact congrArg _ (vis_n2 ‹_›) | exact congrArg _ (vis_n3 ‹_›) | exact congrArg _ (vis_end (k := k1) (by omega) ‹_› ‹_› (by omega)) | exact congrArg _ (vis_end (k := 0) (by omega) ‹_› ‹_› (by omega))), rfl, id, rfl, id, rfl, trivial⟩⟩
   ·
    replace h6 : isFil W xs ys a = false := h6
    refine rk [(10, .bool (hasB o a))] 4 8 ⟨[(26, .bool (hasB o a)), (0, .u a), (1, .p 0), (2, .p 1), (3, .p 2), (4, .p 3)], [(5, .row 1 35 (m64 o)), (4, .mp true .u64 (mpT o)), (3, .cells [.fn 27 [] [.p 0, .p 1, .p 2, .p 3]] 63), (2, .cells [.own 5] 22), (1, .cells [.own 4] 51), (0, .cells (mm W xs ys) 25)], 7⟩ [True, (match false with | true => lkT (mpT o) a (.f) | false => lkD (mpT o) a (.f)) = .bool (hasB o a), True] ⟨trivial, mp_has, trivial, trivial⟩ ?_
    refine en ?_
    refine an ?_
    refine xw_cond (b := (hasB o a)) (by kernel_rfl) (fun h7 => ?_) (fun h7 => ?_)
    ·
     replace h7 : hasB o a = true := h7
     refine xw_ret ?_
     refine an_ret ?_
     exact ⟨.tup [], by kernel_rfl, _, ⟨rfl, rfl⟩, rfl, le_of [] [((m64 o) : List SV) = (m64 (vis W xs ys (n + 1) o a)), ((mpT o) : List (Int × SV)) = (mpT (vis W xs ys (n + 1) o a)), (W : Int) = W, (false = true → false = true), ((m64 xs) : List SV) = (m64 xs), (false = true → false = true), ((m64 ys) : List SV) = (m64 ys)] (by kernel_rfl) ⟨(by first | rfl | exact congrArg _ (vis_n1 (by omega)) | exact congrArg _ (vis_n2 ‹_›) | exact congrArg _ (vis_n3 ‹_›) | exact congrArg _ (vis_end (k := k1) (by omega) ‹_› ‹_› (by omega)) | exact congrArg _ (vis_end (k := 0) (by omega) ‹_› ‹_› (by omega))), (by first | rfl | exact congrArg _ (vis_n1 (by omega)) | exact congrArg _ (vis_n2 ‹_›) | exact congrArg _ (vis_n3 ‹_›) | exact congrArg _ (vis_end (k := k1) (by omega) ‹_› ‹_› (by omega)) | exact congrArg _ (vis_end (k := 0) (by omega) ‹_› ‹_› (by omega))), rfl, id, rfl, id, rfl, trivial⟩⟩
    ·
     replace h7 : hasB o a = false := h7
     refine xw_skip ?_
     refine an ?_
     refine xw_seq ?_
     refine reg ?_
     refine rk [] 3 0 ⟨[(0, .u a), (1, .p 0), (3, .p 2), (4, .p 3)], [(5, .row 1 35 (m64 o)), (4, .mp true .u64 (stE (mpT o) a (.t))), (3, .cells [.fn 27 [] [.p 0, .p 1, .p 2, .p 3]] 63), (2, .cells [.own 5] 22), (1, .cells [.own 4] 51), (0, .cells (mm W xs ys) 25)], 7⟩ [True, True] ⟨trivial, trivial, trivial⟩ ?_
     refine setb 4 (B := .mp true .u64 (stE (mpT o) a (.t))) (B' := .mp true .u64 (mpT (addS o a))) (by kernel_rfl) mp_add ?_
     refine en ?_
     refine an ?_
     refine xw_seq ?_
     refine reg ?_
     refine rk [(2, .t)] 4 0 ⟨[(32, .own 7), (0, .u a), (1, .p 0), (3, .p 2), (4, .p 3)], [(7, .row 1 35 (((m64 o)) ++ ([.u a]))), (4, .mp true .u64 (mpT (addS o a))), (3, .cells [.fn 27 [] [.p 0, .p 1, .p 2, .p 3]] 63), (2, .cells [.own 5] 22), (1, .cells [.own 4] 51), (0, .cells (mm W xs ys) 25)], 8⟩ [True, (∀ y ∈ ([.u a] : List SV), ElemOk y) ∧ (false = true → 1 ≤ ([.u a] : List SV).length ∧ ∀ x ∈ ((m64 o) : List SV), ElemOk x) ∧ (((m64 o) : List SV).length + ([.u a] : List SV).length) * 8 ≤ 140737488355328 ∧ ((m64 o) : List SV).length + ([.u a] : List SV).length ≤ 4611686018427387904] ⟨trivial, ⟨(by intro y hy; simp at hy; first | (subst hy; rfl) | (rcases hy with rfl | rfl <;> rfl)), (fun h => by cases h), by first | omega | (simp only [len_st]; omega) | (simp; done) | (simp; omega) | (simp [len_st, len_stx, len_sty, len_zx, len_zy]; omega), by first | omega | (simp only [len_st]; omega) | (simp; done) | (simp; omega) | (simp [len_st, len_stx, len_sty, len_zx, len_zy]; omega)⟩, trivial⟩ ?_
     refine setr 7 (z := 1) (E := 35) (L := (((m64 o)) ++ ([.u a]))) (L' := (m64 (o ++ [a]))) (by kernel_rfl) app_one ?_
     refine rk [] 1 4 ⟨[(0, .u a), (1, .p 0), (4, .p 3)], [(7, .row 1 35 (m64 (o ++ [a]))), (4, .mp true .u64 (mpT (addS o a))), (3, .cells [.fn 27 [] [.p 0, .p 1, .p 2, .p 3]] 63), (2, .cells [.own 7] 22), (1, .cells [.own 4] 51), (0, .cells (mm W xs ys) 25)], 8⟩ [True] ⟨trivial, trivial⟩ ?_
     refine en ?_
     refine an ?_
     refine xw_seq ?_
     refine reg ?_
     refine rk [] 2 0 ⟨[(34, .u a), (33, .agg (mm W xs ys)), (4, .p 3)], [(7, .row 1 35 (m64 (o ++ [a]))), (4, .mp true .u64 (mpT (addS o a))), (3, .cells [.fn 27 [] [.p 0, .p 1, .p 2, .p 3]] 63), (2, .cells [.own 7] 22), (1, .cells [.own 4] 51), (0, .cells (mm W xs ys) 25)], 8⟩ [True] ⟨trivial, trivial⟩ ?_
     refine callx (f := 20) (args := [.agg (mm W xs ys), .u a]) (d := (some 35)) (by kernel_rfl) (xcall_of TT_ok Try.func20 rfl (by decide) (Nat.le_of_ble_eq_true (by kernel_rfl)) ?_)
     refine rg [] 3 ⟨[(4, .raw .nilFunc), (3, .p 9), (2, .p 8)], [(9, .cells [.u a] 35), (8, .cells (mm W xs ys) 25), (7, .row 1 35 (m64 (o ++ [a]))), (4, .mp true .u64 (mpT (addS o a))), (3, .cells [.fn 27 [] [.p 0, .p 1, .p 2, .p 3]] 63), (2, .cells [.own 7] 22), (1, .cells [.own 4] 51), (0, .cells (mm W xs ys) 25)], 10⟩ [] trivial ?_
     refine rg [] 2 ⟨[(4, .fn 35 [] [.p 8, .p 9])], [(9, .cells [.u a] 35), (8, .cells (mm W xs ys) 25), (7, .row 1 35 (m64 (o ++ [a]))), (4, .mp true .u64 (mpT (addS o a))), (3, .cells [.fn 27 [] [.p 0, .p 1, .p 2, .p 3]] 63), (2, .cells [.own 7] 22), (1, .cells [.own 4] 51), (0, .cells (mm W xs ys) 25)], 10⟩ [] trivial ?_
     refine xw_ret ?_
     refine ⟨.fn 35 [] [.p 8, .p 9], by kernel_rfl, ?_⟩
     show XOi _ _ _ _ _ _ _ ⟨[(35, .fn 35 [] [.loc 8 0, .loc 9 0]), (34, .int .u64 a), (33, .agg (mm W xs ys)), (4, .loc 3 0)], [(9, .cells [.int .u64 a] 35), (8, .cells (mm W xs ys) 25), (7, .row 1 35 (m64 (o ++ [a]))), (4, .mp true .u64 (mpT (addS o a))), (3, .cells [.fn 27 [] [.loc 0 0, .loc 1 0, .loc 2 0, .loc 3 0]] 63), (2, .cells [.own 7] 22), (1, .cells [.own 4] 51), (0, .cells (mm W xs ys) 25)], 10⟩
     refine en ?_
     refine an ?_
     refine xw_block ?_
     refine xw_range (f := 35) (fst := []) (cap := [.p 8, .p 9]) (by kernel_rfl) ?_
     intro l8 _ B8 hB8
     refine xcall_of TT_ok Try.func35 rfl (by decide) (Nat.le_of_ble_eq_true (by kernel_rfl)) ?_
     refine xw_seq ?_
     refine reg ?_
     refine rk [] 2 0 ⟨[(13, .u a), (12, .agg (mm W xs ys)), (0, .raw (Value.func (.yield l8) #[] #[])), (1, .p 8), (2, .p 9)], [(10, .lp 10 B8), (9, .cells [.u a] 35), (8, .cells (mm W xs ys) 25), (7, .row 1 35 (m64 (o ++ [a]))), (4, .mp true .u64 (mpT (addS o a))), (3, .cells [.fn 27 [] [.p 0, .p 1, .p 2, .p 3]] 63), (2, .cells [.own 7] 22), (1, .cells [.own 4] 51), (0, .cells (mm W xs ys) 25)], 11⟩ [True, True] ⟨trivial, trivial, trivial⟩ ?_
     refine pc (oat_1 W xs ys a ‹_› ‹_› ‹_› ‹_› ‹_› ‹_› ‹_›) ?_
     refine rk [] 6 3 ⟨[(4, .p 11), (0, .raw (Value.func (.yield l8) #[] #[])), (1, .p 8), (2, .p 9)], [(11, .cells [.i (hT xs ys a), .i (hL xs ys a), .u (hM xs ys a)] 49), (10, .lp 10 B8), (9, .cells [.u a] 35), (8, .cells (mm W xs ys) 25), (7, .row 1 35 (m64 (o ++ [a]))), (4, .mp true .u64 (mpT (addS o a))), (3, .cells [.fn 27 [] [.p 0, .p 1, .p 2, .p 3]] 63), (2, .cells [.own 7] 22), (1, .cells [.own 4] 51), (0, .cells (mm W xs ys) 25)], 12⟩ [True] ⟨trivial, trivial⟩ ?_
     refine en ?_
     refine an ?_
     refine xw_seq ?_
     refine reg ?_
     refine rk [] 1 0 ⟨[(17, .agg [.i (hT xs ys a), .i (hL xs ys a), .u (hM xs ys a)]), (0, .raw (Value.func (.yield l8) #[] #[])), (1, .p 8), (2, .p 9)], [(10, .lp 10 B8), (9, .cells [.u a] 35), (8, .cells (mm W xs ys) 25), (7, .row 1 35 (m64 (o ++ [a]))), (4, .mp true .u64 (mpT (addS o a))), (3, .cells [.fn 27 [] [.p 0, .p 1, .p 2, .p 3]] 63), (2, .cells [.own 7] 22), (1, .cells [.own 4] 51), (0, .cells (mm W xs ys) 25)], 12⟩ [True] ⟨trivial, trivial⟩ ?_
     refine pc (hptrs (ldw xs ys a / 72057594037927936) ((ldw xs ys a / 4294967296) % 16777216) (ldw xs ys a % 4294967296) (by omega) (by omega) (by omega)) ?_
     have h9 : I64s (ptL ((ldw xs ys a / 4294967296) % 16777216) (ldw xs ys a % 4294967296) (Int.toNat ((ldw xs ys a / 4294967296) % 16777216))) := ptL_i64 _ _ (by omega)
     have h10 : ((ptL ((ldw xs ys a / 4294967296) % 16777216) (ldw xs ys a % 4294967296) (Int.toNat ((ldw xs ys a / 4294967296) % 16777216))).length : Int) ≤ ((ldw xs ys a / 4294967296) % 16777216) := ptL_le (by omega)
     refine rk [(2, .i (((ptL ((ldw xs ys a / 4294967296) % 16777216) (ldw xs ys a % 4294967296) (Int.toNat ((ldw xs ys a / 4294967296) % 16777216)))).length : Int))] 2 2 ⟨[(20, .i 0), (19, .i (((ptL (hL xs ys a) (hM xs ys a) (Int.toNat (hL xs ys a)))).length : Int)), (18, .sl false 1 (List.map (SV.int .i64) (ptL (hL xs ys a) (hM xs ys a) (Int.toNat (hL xs ys a))))), (0, .raw (Value.func (.yield l8) #[] #[])), (1, .p 8), (2, .p 9)], [(10, .lp 10 B8), (9, .cells [.u a] 35), (8, .cells (mm W xs ys) 25), (7, .row 1 35 (m64 (o ++ [a]))), (4, .mp true .u64 (mpT (addS o a))), (3, .cells [.fn 27 [] [.p 0, .p 1, .p 2, .p 3]] 63), (2, .cells [.own 7] 22), (1, .cells [.own 4] 51), (0, .cells (mm W xs ys) 25)], 12⟩ [((((List.map (SV.int .i64) (ptL ((ldw xs ys a / 4294967296) % 16777216) (ldw xs ys a % 4294967296) (Int.toNat ((ldw xs ys a / 4294967296) % 16777216))))).length : Nat) : Int) = (((ptL ((ldw xs ys a / 4294967296) % 16777216) (ldw xs ys a % 4294967296) (Int.toNat ((ldw xs ys a / 4294967296) % 16777216)))).length : Int)] ⟨(by simp), trivial⟩ ?_
     refine en ?_
     refine an ?_
     refine xw_block ?_
     refine xw_loop (α := {q : Int // (0 ≤ q) ∧ (q ≤ ((ptL ((ldw xs ys a / 4294967296) % 16777216) (ldw xs ys a % 4294967296) (Int.toNat ((ldw xs ys a / 4294967296) % 16777216))).length : Int))}) (fun p => ⟨[(20, .i p.1), (19, .i (((ptL (hL xs ys a) (hM xs ys a) (Int.toNat (hL xs ys a)))).length : Int)), (18, .sl false 1 (List.map (SV.int .i64) (ptL (hL xs ys a) (hM xs ys a) (Int.toNat (hL xs ys a))))), (0, .raw (Value.func (.yield l8) #[] #[])), (1, .p 8), (2, .p 9)], [(12, .row 1 35 (m64 (vfd W xs ys n (o ++ [a]) (ptrs W xs ys a) p.1))), (10, .lp 10 B8), (9, .cells [.u a] 35), (8, .cells (mm W xs ys) 25), (4, .mp true .u64 (mpT (vfd W xs ys n (o ++ [a]) (ptrs W xs ys a) p.1))), (3, .cells [.fn 27 [] [.p 0, .p 1, .p 2, .p 3]] 63), (2, .cells [.own 12] 22), (1, .cells [.own 4] 51), (0, .cells (mm W xs ys) 25)], 13⟩) (fun p => (((ptL ((ldw xs ys a / 4294967296) % 16777216) (ldw xs ys a % 4294967296) (Int.toNat ((ldw xs ys a / 4294967296) % 16777216))).length : Int) - p.1).toNat) ⟨0, ⟨(by omega), (by omega)⟩⟩ (le_of [(12, 7)] [(0 : Int) = 0, ((((ptL ((ldw xs ys a / 4294967296) % 16777216) (ldw xs ys a % 4294967296) (Int.toNat ((ldw xs ys a / 4294967296) % 16777216)))).length : Int) : Int) = (((ptL ((ldw xs ys a / 4294967296) % 16777216) (ldw xs ys a % 4294967296) (Int.toNat ((ldw xs ys a / 4294967296) % 16777216)))).length : Int), (false = true → false = true), ((List.map (SV.int .i64) (ptL ((ldw xs ys a / 4294967296) % 16777216) (ldw xs ys a % 4294967296) (Int.toNat ((ldw xs ys a / 4294967296) % 16777216)))) : List SV) = (List.map (SV.int .i64) (ptL ((ldw xs ys a / 4294967296) % 16777216) (ldw xs ys a % 4294967296) (Int.toNat ((ldw xs ys a / 4294967296) % 16777216)))), (Value.func (.yield l8) #[] #[]) = (Value.func (.yield l8) #[] #[]), ((m64 (o ++ [a])) : List SV) = (m64 (vfd W xs ys n (o ++ [a]) (ptrs W xs ys a) 0)), B8 = B8, (a : Int) = a, (W : Int) = W, (false = true → false = true), ((m64 xs) : List SV) = (m64 xs), (false = true → false = true), ((m64 ys) : List SV) = (m64 ys), ((mpT (addS o a)) : List (Int × SV)) = (mpT (vfd W xs ys n (o ++ [a]) (ptrs W xs ys a) 0)), (W : Int) = W, (false = true → false = true), ((m64 xs) : List SV) = (m64 xs), (false = true → false = true), ((m64 ys) : List SV) = (m64 ys)] (by kernel_rfl) ⟨rfl, rfl, id, rfl, rfl, (by first | rfl | exact congrArg mpT (addS_new ‹_›) | exact congrArg _ (vfd_nx (by omega) (by omega) (by omega))), rfl, rfl, rfl, id, rfl, id, rfl, (by first | rfl | exact congrArg mpT (addS_new ‹_›) | exact congrArg _ (vfd_nx (by omega) (by omega) (by omega))), rfl, id, rfl, id, rfl, trivial⟩) ?_
     rintro ⟨k1, h11, h12⟩
     show XW _ _ _ _ _ _ ⟨[(20, .int .i64 k1), (19, .int .i64 (((ptL ((ldw xs ys a / 4294967296) % 16777216) (ldw xs ys a % 4294967296) (Int.toNat ((ldw xs ys a / 4294967296) % 16777216)))).length : Int)), (18, .sl false 1 (List.map (SV.int .i64) (ptL ((ldw xs ys a / 4294967296) % 16777216) (ldw xs ys a % 4294967296) (Int.toNat ((ldw xs ys a / 4294967296) % 16777216))))), (0, .raw (Value.func (.yield l8) #[] #[])), (1, .loc 8 0), (2, .loc 9 0)], [(12, .row 1 35 (m64 (vfd W xs ys n (o ++ [a]) (ptrs W xs ys a) k1))), (10, .lp 10 B8), (9, .cells [.int .u64 a] 35), (8, .cells (mm W xs ys) 25), (4, .mp true .u64 (mpT (vfd W xs ys n (o ++ [a]) (ptrs W xs ys a) k1))), (3, .cells [.fn 27 [] [.loc 0 0, .loc 1 0, .loc 2 0, .loc 3 0]] 63), (2, .cells [.own 12] 22), (1, .cells [.own 4] 51), (0, .cells (mm W xs ys) 25)], 13⟩
     have h13 : k1 = ((ptL ((ldw xs ys a / 4294967296) % 16777216) (ldw xs ys a % 4294967296) (Int.toNat ((ldw xs ys a / 4294967296) % 16777216))).length : Int) ∨ (k1 < ((ptL ((ldw xs ys a / 4294967296) % 16777216) (ldw xs ys a % 4294967296) (Int.toNat ((ldw xs ys a / 4294967296) % 16777216))).length : Int) ∧ 0 ≤ (ix (ptL ((ldw xs ys a / 4294967296) % 16777216) (ldw xs ys a % 4294967296) (Int.toNat ((ldw xs ys a / 4294967296) % 16777216))) k1) ∧ (ix (ptL ((ldw xs ys a / 4294967296) % 16777216) (ldw xs ys a % 4294967296) (Int.toNat ((ldw xs ys a / 4294967296) % 16777216))) k1) < ((ldw xs ys a / 4294967296) % 16777216) ∧ (ldw xs ys a / 72057594037927936) ≠ 255) := ptl_ix (t := (ldw xs ys a / 72057594037927936)) (by omega) (by omega) (by omega)
     have h14 : Vk W xs ys (vfd W xs ys n (o ++ [a]) (ptrs W xs ys a) k1) := vfd_vk ‹Vk W xs ys o› (by omega) ‹_› ‹_›
     have h15 : (fre W xs ys (vfd W xs ys n (o ++ [a]) (ptrs W xs ys a) k1)) < (fre W xs ys o) := vfd_fre ‹Vk W xs ys o› (by omega) ‹_› ‹_›
     have h16 : U64s (vfd W xs ys n (o ++ [a]) (ptrs W xs ys a) k1) := (vfd_vk ‹Vk W xs ys o› (by omega) ‹_› ‹_›).1
     refine rg [(0, .bool (decide (k1 < (((ptL ((ldw xs ys a / 4294967296) % 16777216) (ldw xs ys a % 4294967296) (Int.toNat ((ldw xs ys a / 4294967296) % 16777216)))).length : Int))))] 1 ⟨[(21, .bool (decide (k1 < (((ptL (hL xs ys a) (hM xs ys a) (Int.toNat (hL xs ys a)))).length : Int)))), (20, .i k1), (19, .i (((ptL (hL xs ys a) (hM xs ys a) (Int.toNat (hL xs ys a)))).length : Int)), (18, .sl false 1 (List.map (SV.int .i64) (ptL (hL xs ys a) (hM xs ys a) (Int.toNat (hL xs ys a))))), (0, .raw (Value.func (.yield l8) #[] #[])), (1, .p 8), (2, .p 9)], [(12, .row 1 35 (m64 (vfd W xs ys n (o ++ [a]) (ptrs W xs ys a) k1))), (10, .lp 10 B8), (9, .cells [.u a] 35), (8, .cells (mm W xs ys) 25), (4, .mp true .u64 (mpT (vfd W xs ys n (o ++ [a]) (ptrs W xs ys a) k1))), (3, .cells [.fn 27 [] [.p 0, .p 1, .p 2, .p 3]] 63), (2, .cells [.own 12] 22), (1, .cells [.own 4] 51), (0, .cells (mm W xs ys) 25)], 13⟩ [(decide (k1 < (((ptL ((ldw xs ys a / 4294967296) % 16777216) (ldw xs ys a % 4294967296) (Int.toNat ((ldw xs ys a / 4294967296) % 16777216)))).length : Int))) = (decide (k1 < (((ptL ((ldw xs ys a / 4294967296) % 16777216) (ldw xs ys a % 4294967296) (Int.toNat ((ldw xs ys a / 4294967296) % 16777216)))).length : Int)))] ⟨rfl, trivial⟩ ?_
     refine xw_seq ?_
     refine xw_cond (b := (decide (k1 < (((ptL ((ldw xs ys a / 4294967296) % 16777216) (ldw xs ys a % 4294967296) (Int.toNat ((ldw xs ys a / 4294967296) % 16777216)))).length : Int)))) (by kernel_rfl) (fun h17 => ?_) (fun h17 => ?_)
     ·
      replace h17 : k1 < ((ptL ((ldw xs ys a / 4294967296) % 16777216) (ldw xs ys a % 4294967296) (Int.toNat ((ldw xs ys a / 4294967296) % 16777216))).length : Int) := of_decide_eq_true h17
      refine xw_skip ?_
      refine an ?_
      refine xw_seq ?_
      refine xw_block ?_
      refine xw_seq ?_
      refine reg ?_
      refine rk [(0, .i (ix (ptL ((ldw xs ys a / 4294967296) % 16777216) (ldw xs ys a % 4294967296) (Int.toNat ((ldw xs ys a / 4294967296) % 16777216))) k1))] 1 0 ⟨[(22, .elt (.i (ix (ptL (hL xs ys a) (hM xs ys a) (Int.toNat (hL xs ys a))) k1))), (20, .i k1), (19, .i (((ptL (hL xs ys a) (hM xs ys a) (Int.toNat (hL xs ys a)))).length : Int)), (18, .sl false 1 (List.map (SV.int .i64) (ptL (hL xs ys a) (hM xs ys a) (Int.toNat (hL xs ys a))))), (0, .raw (Value.func (.yield l8) #[] #[])), (1, .p 8), (2, .p 9)], [(12, .row 1 35 (m64 (vfd W xs ys n (o ++ [a]) (ptrs W xs ys a) k1))), (10, .lp 10 B8), (9, .cells [.u a] 35), (8, .cells (mm W xs ys) 25), (4, .mp true .u64 (mpT (vfd W xs ys n (o ++ [a]) (ptrs W xs ys a) k1))), (3, .cells [.fn 27 [] [.p 0, .p 1, .p 2, .p 3]] 63), (2, .cells [.own 12] 22), (1, .cells [.own 4] 51), (0, .cells (mm W xs ys) 25)], 13⟩ [(0 : Int) ≤ k1 ∧ k1 < ((((List.map (SV.int .i64) (ptL ((ldw xs ys a / 4294967296) % 16777216) (ldw xs ys a % 4294967296) (Int.toNat ((ldw xs ys a / 4294967296) % 16777216))))).length : Nat) : Int) ∧ ((List.map (SV.int .i64) (ptL ((ldw xs ys a / 4294967296) % 16777216) (ldw xs ys a % 4294967296) (Int.toNat ((ldw xs ys a / 4294967296) % 16777216)))))[(k1 : Int).toNat]? = some (.i (ix (ptL ((ldw xs ys a / 4294967296) % 16777216) (ldw xs ys a % 4294967296) (Int.toNat ((ldw xs ys a / 4294967296) % 16777216))) k1))] ⟨(ix_ok (by omega) (by first | omega | (simp only [len_st]; omega) | (simp; done) | (simp; omega) | (simp [len_st, len_stx, len_sty, len_zx, len_zy]; omega))), trivial⟩ ?_
      have h18 : -9223372036854775808 ≤ (ix (ptL ((ldw xs ys a / 4294967296) % 16777216) (ldw xs ys a % 4294967296) (Int.toNat ((ldw xs ys a / 4294967296) % 16777216))) k1) ∧ (ix (ptL ((ldw xs ys a / 4294967296) % 16777216) (ldw xs ys a % 4294967296) (Int.toNat ((ldw xs ys a / 4294967296) % 16777216))) k1) ≤ 9223372036854775807 := I64s.ix (by first | assumption | exact U64s.st (by assumption) _ (by omega)) _
      refine rk [] 2 1 ⟨[(7, .i (ix (ptL (hL xs ys a) (hM xs ys a) (Int.toNat (hL xs ys a))) k1)), (20, .i k1), (19, .i (((ptL (hL xs ys a) (hM xs ys a) (Int.toNat (hL xs ys a)))).length : Int)), (18, .sl false 1 (List.map (SV.int .i64) (ptL (hL xs ys a) (hM xs ys a) (Int.toNat (hL xs ys a))))), (0, .raw (Value.func (.yield l8) #[] #[])), (1, .p 8), (2, .p 9)], [(12, .row 1 35 (m64 (vfd W xs ys n (o ++ [a]) (ptrs W xs ys a) k1))), (10, .lp 10 B8), (9, .cells [.u a] 35), (8, .cells (mm W xs ys) 25), (4, .mp true .u64 (mpT (vfd W xs ys n (o ++ [a]) (ptrs W xs ys a) k1))), (3, .cells [.fn 27 [] [.p 0, .p 1, .p 2, .p 3]] 63), (2, .cells [.own 12] 22), (1, .cells [.own 4] 51), (0, .cells (mm W xs ys) 25)], 13⟩ [True] ⟨trivial, trivial⟩ ?_
      refine en ?_
      refine an ?_
      refine xw_seq ?_
      refine reg ?_
      refine rk [] 3 0 ⟨[(27, .i (ix (ptL (hL xs ys a) (hM xs ys a) (Int.toNat (hL xs ys a))) k1)), (26, .u a), (25, .agg (mm W xs ys)), (20, .i k1), (19, .i (((ptL (hL xs ys a) (hM xs ys a) (Int.toNat (hL xs ys a)))).length : Int)), (18, .sl false 1 (List.map (SV.int .i64) (ptL (hL xs ys a) (hM xs ys a) (Int.toNat (hL xs ys a))))), (0, .raw (Value.func (.yield l8) #[] #[])), (1, .p 8), (2, .p 9)], [(12, .row 1 35 (m64 (vfd W xs ys n (o ++ [a]) (ptrs W xs ys a) k1))), (10, .lp 10 B8), (9, .cells [.u a] 35), (8, .cells (mm W xs ys) 25), (4, .mp true .u64 (mpT (vfd W xs ys n (o ++ [a]) (ptrs W xs ys a) k1))), (3, .cells [.fn 27 [] [.p 0, .p 1, .p 2, .p 3]] 63), (2, .cells [.own 12] 22), (1, .cells [.own 4] 51), (0, .cells (mm W xs ys) 25)], 13⟩ [True, True] ⟨trivial, trivial, trivial⟩ ?_
      refine pc (oget_1 W xs ys a (ix (ptL ((ldw xs ys a / 4294967296) % 16777216) (ldw xs ys a % 4294967296) (Int.toNat ((ldw xs ys a / 4294967296) % 16777216))) k1) ‹_› ‹_› ‹_› ‹_› ‹_› ‹_› ‹_› ‹_› (by omega) (by omega)) ?_
      have h19 : 0 ≤ (ldw xs ys (a + 2 + (ix (ptL ((ldw xs ys a / 4294967296) % 16777216) (ldw xs ys a % 4294967296) (Int.toNat ((ldw xs ys a / 4294967296) % 16777216))) k1))) ∧ (ldw xs ys (a + 2 + (ix (ptL ((ldw xs ys a / 4294967296) % 16777216) (ldw xs ys a % 4294967296) (Int.toNat ((ldw xs ys a / 4294967296) % 16777216))) k1))) ≤ 18446744073709551615 := ldw_ok xs ys (a + 2 + (ix (ptL ((ldw xs ys a / 4294967296) % 16777216) (ldw xs ys a % 4294967296) (Int.toNat ((ldw xs ys a / 4294967296) % 16777216))) k1)) ‹_› ‹_›
      have h20 : 1 ≤ (a + 2 + (ix (ptL ((ldw xs ys a / 4294967296) % 16777216) (ldw xs ys a % 4294967296) (Int.toNat ((ldw xs ys a / 4294967296) % 16777216))) k1)) / 4294967296 ∧ (a + 2 + (ix (ptL ((ldw xs ys a / 4294967296) % 16777216) (ldw xs ys a % 4294967296) (Int.toNat ((ldw xs ys a / 4294967296) % 16777216))) k1)) / 4294967296 ≤ 2 ∧ (a + 2 + (ix (ptL ((ldw xs ys a / 4294967296) % 16777216) (ldw xs ys a % 4294967296) (Int.toNat ((ldw xs ys a / 4294967296) % 16777216))) k1)) % 4294967296 < W := by omega
      refine rk [] 7 4 ⟨[(8, .u (ldw xs ys (a + 2 + (ix (ptL (hL xs ys a) (hM xs ys a) (Int.toNat (hL xs ys a))) k1)))), (20, .i k1), (19, .i (((ptL (hL xs ys a) (hM xs ys a) (Int.toNat (hL xs ys a)))).length : Int)), (18, .sl false 1 (List.map (SV.int .i64) (ptL (hL xs ys a) (hM xs ys a) (Int.toNat (hL xs ys a))))), (0, .raw (Value.func (.yield l8) #[] #[])), (1, .p 8), (2, .p 9)], [(12, .row 1 35 (m64 (vfd W xs ys n (o ++ [a]) (ptrs W xs ys a) k1))), (10, .lp 10 B8), (9, .cells [.u a] 35), (8, .cells (mm W xs ys) 25), (4, .mp true .u64 (mpT (vfd W xs ys n (o ++ [a]) (ptrs W xs ys a) k1))), (3, .cells [.fn 27 [] [.p 0, .p 1, .p 2, .p 3]] 63), (2, .cells [.own 12] 22), (1, .cells [.own 4] 51), (0, .cells (mm W xs ys) 25)], 13⟩ [] trivial ?_
      refine en ?_
      refine an ?_
      refine xw_seq ?_
      refine reg ?_
      refine rk [] 2 0 ⟨[(33, .u (ldw xs ys (a + 2 + (ix (ptL (hL xs ys a) (hM xs ys a) (Int.toNat (hL xs ys a))) k1)))), (32, .raw (Value.func (.yield l8) #[] #[])), (20, .i k1), (19, .i (((ptL (hL xs ys a) (hM xs ys a) (Int.toNat (hL xs ys a)))).length : Int)), (18, .sl false 1 (List.map (SV.int .i64) (ptL (hL xs ys a) (hM xs ys a) (Int.toNat (hL xs ys a))))), (0, .raw (Value.func (.yield l8) #[] #[])), (1, .p 8), (2, .p 9)], [(12, .row 1 35 (m64 (vfd W xs ys n (o ++ [a]) (ptrs W xs ys a) k1))), (10, .lp 10 B8), (9, .cells [.u a] 35), (8, .cells (mm W xs ys) 25), (4, .mp true .u64 (mpT (vfd W xs ys n (o ++ [a]) (ptrs W xs ys a) k1))), (3, .cells [.fn 27 [] [.p 0, .p 1, .p 2, .p 3]] 63), (2, .cells [.own 12] 22), (1, .cells [.own 4] 51), (0, .cells (mm W xs ys) 25)], 13⟩ [] trivial ?_
      refine xoi_yield 10 10 (xs := [.u (ldw xs ys (a + 2 + (ix (ptL ((ldw xs ys a / 4294967296) % 16777216) (ldw xs ys a % 4294967296) (Int.toNat ((ldw xs ys a / 4294967296) % 16777216))) k1)))]) (d := some 34) hB8 (by kernel_rfl) (by kernel_rfl) (by kernel_rfl) (by kernel_rfl) ?_
      refine re [] 1 ⟨[(8, .u (ldw xs ys (a + 2 + (ix (ptL (hL xs ys a) (hM xs ys a) (Int.toNat (hL xs ys a))) k1)))), (4, .p 3)], [(12, .row 1 35 (m64 (vfd W xs ys n (o ++ [a]) (ptrs W xs ys a) k1))), (9, .cells [.u a] 35), (8, .cells (mm W xs ys) 25), (4, .mp true .u64 (mpT (vfd W xs ys n (o ++ [a]) (ptrs W xs ys a) k1))), (3, .cells [.fn 27 [] [.p 0, .p 1, .p 2, .p 3]] 63), (2, .cells [.own 12] 22), (1, .cells [.own 4] 51), (0, .cells (mm W xs ys) 25)], 13⟩ [] trivial ?_
      refine ⟨rfl, ?_⟩
      refine xw_block ?_
      refine reg ?_
      refine rk [] 2 0 ⟨[(38, .u (ldw xs ys (a + 2 + (ix (ptL (hL xs ys a) (hM xs ys a) (Int.toNat (hL xs ys a))) k1)))), (37, .fn 27 [] [.p 0, .p 1, .p 2, .p 3])], [(12, .row 1 35 (m64 (vfd W xs ys n (o ++ [a]) (ptrs W xs ys a) k1))), (9, .cells [.u a] 35), (8, .cells (mm W xs ys) 25), (4, .mp true .u64 (mpT (vfd W xs ys n (o ++ [a]) (ptrs W xs ys a) k1))), (3, .cells [.fn 27 [] [.p 0, .p 1, .p 2, .p 3]] 63), (2, .cells [.own 12] 22), (1, .cells [.own 4] 51), (0, .cells (mm W xs ys) 25)], 13⟩ [True] ⟨trivial, trivial⟩ ?_
      refine mcall1 (d := (some 39)) [0, 1, 2, 3, 4, 12] (ih (vfd W xs ys n (o ++ [ a ]) (ptrs W xs ys a) k1) (ldw xs ys (a + 2 + (ix (ptL ((ldw xs ys a / 4294967296) % 16777216) (ldw xs ys a % 4294967296) (Int.toNat ((ldw xs ys a / 4294967296) % 16777216))) k1))) ‹_› (by omega) ‹_›) ⟨[(39, .tup []), (38, .u (ldw xs ys (a + 2 + (ix (ptL (hL xs ys a) (hM xs ys a) (Int.toNat (hL xs ys a))) k1)))), (37, .fn 27 [] [.p 0, .p 1, .p 2, .p 3])], [(13, .row 1 35 (m64 (vis W xs ys n (vfd W xs ys n (o ++ [ a ]) (ptrs W xs ys a) k1) (ldw xs ys (a + 2 + (ix (ptL (hL xs ys a) (hM xs ys a) (Int.toNat (hL xs ys a))) k1)))))), (4, .mp true .u64 (mpT (vis W xs ys n (vfd W xs ys n (o ++ [ a ]) (ptrs W xs ys a) k1) (ldw xs ys (a + 2 + (ix (ptL (hL xs ys a) (hM xs ys a) (Int.toNat (hL xs ys a))) k1)))))), (3, .cells [.fn 27 [] [.p 0, .p 1, .p 2, .p 3]] 63), (2, .cells [.own 13] 22), (1, .cells [.own 4] 51), (0, .cells (mm W xs ys) 25), (9, .cells [.u a] 35), (8, .cells (mm W xs ys) 25)], 14⟩ ⟨by kernel_rfl, by kernel_rfl, by kernel_rfl, by kernel_rfl, by kernel_rfl, by kernel_rfl, trivial⟩ ?_
      refine en ?_
      refine ib ?_
      refine yk_normal (by rw [hB8]) ?_
      refine rk [] 1 3 ⟨[(35, .f), (20, .i k1), (19, .i (((ptL (hL xs ys a) (hM xs ys a) (Int.toNat (hL xs ys a)))).length : Int)), (18, .sl false 1 (List.map (SV.int .i64) (ptL (hL xs ys a) (hM xs ys a) (Int.toNat (hL xs ys a))))), (0, .raw (Value.func (.yield l8) #[] #[])), (1, .p 8), (2, .p 9)], [(10, .lp 10 B8), (13, .row 1 35 (m64 (vis W xs ys n (vfd W xs ys n (o ++ [ a ]) (ptrs W xs ys a) k1) (ldw xs ys (a + 2 + (ix (ptL (hL xs ys a) (hM xs ys a) (Int.toNat (hL xs ys a))) k1)))))), (4, .mp true .u64 (mpT (vis W xs ys n (vfd W xs ys n (o ++ [ a ]) (ptrs W xs ys a) k1) (ldw xs ys (a + 2 + (ix (ptL (hL xs ys a) (hM xs ys a) (Int.toNat (hL xs ys a))) k1)))))), (3, .cells [.fn 27 [] [.p 0, .p 1, .p 2, .p 3]] 63), (2, .cells [.own 13] 22), (1, .cells [.own 4] 51), (0, .cells (mm W xs ys) 25), (9, .cells [.u a] 35), (8, .cells (mm W xs ys) 25)], 14⟩ [] trivial ?_
      refine en ?_
      refine an ?_
      refine cf ?_
      refine xw_skip ?_
      refine ib ?_
      refine an ?_
      refine re [(0, .i (k1 + 1))] 2 ⟨[(20, .i (k1 + 1)), (19, .i (((ptL (hL xs ys a) (hM xs ys a) (Int.toNat (hL xs ys a)))).length : Int)), (18, .sl false 1 (List.map (SV.int .i64) (ptL (hL xs ys a) (hM xs ys a) (Int.toNat (hL xs ys a))))), (0, .raw (Value.func (.yield l8) #[] #[])), (1, .p 8), (2, .p 9)], [(10, .lp 10 B8), (13, .row 1 35 (m64 (vis W xs ys n (vfd W xs ys n (o ++ [ a ]) (ptrs W xs ys a) k1) (ldw xs ys (a + 2 + (ix (ptL (hL xs ys a) (hM xs ys a) (Int.toNat (hL xs ys a))) k1)))))), (4, .mp true .u64 (mpT (vis W xs ys n (vfd W xs ys n (o ++ [ a ]) (ptrs W xs ys a) k1) (ldw xs ys (a + 2 + (ix (ptL (hL xs ys a) (hM xs ys a) (Int.toNat (hL xs ys a))) k1)))))), (3, .cells [.fn 27 [] [.p 0, .p 1, .p 2, .p 3]] 63), (2, .cells [.own 13] 22), (1, .cells [.own 4] 51), (0, .cells (mm W xs ys) 25), (9, .cells [.u a] 35), (8, .cells (mm W xs ys) 25)], 14⟩ [IntKind.i64.wrap (k1 + 1) = (k1 + 1)] ⟨i64_eq (by omega) (by omega), trivial⟩ ?_
      exact ag ⟨(k1 + 1), ⟨(by omega), (by omega)⟩⟩ (le_of [(12, 13)] [((k1 + 1) : Int) = (k1 + 1), ((((ptL ((ldw xs ys a / 4294967296) % 16777216) (ldw xs ys a % 4294967296) (Int.toNat ((ldw xs ys a / 4294967296) % 16777216)))).length : Int) : Int) = (((ptL ((ldw xs ys a / 4294967296) % 16777216) (ldw xs ys a % 4294967296) (Int.toNat ((ldw xs ys a / 4294967296) % 16777216)))).length : Int), (false = true → false = true), ((List.map (SV.int .i64) (ptL ((ldw xs ys a / 4294967296) % 16777216) (ldw xs ys a % 4294967296) (Int.toNat ((ldw xs ys a / 4294967296) % 16777216)))) : List SV) = (List.map (SV.int .i64) (ptL ((ldw xs ys a / 4294967296) % 16777216) (ldw xs ys a % 4294967296) (Int.toNat ((ldw xs ys a / 4294967296) % 16777216)))), (Value.func (.yield l8) #[] #[]) = (Value.func (.yield l8) #[] #[]), ((m64 (vis W xs ys n (vfd W xs ys n (o ++ [ a ]) (ptrs W xs ys a) k1) (ldw xs ys (a + 2 + (ix (ptL ((ldw xs ys a / 4294967296) % 16777216) (ldw xs ys a % 4294967296) (Int.toNat ((ldw xs ys a / 4294967296) % 16777216))) k1))))) : List SV) = (m64 (vfd W xs ys n (o ++ [a]) (ptrs W xs ys a) (k1 + 1))), B8 = B8, (a : Int) = a, (W : Int) = W, (false = true → false = true), ((m64 xs) : List SV) = (m64 xs), (false = true → false = true), ((m64 ys) : List SV) = (m64 ys), ((mpT (vis W xs ys n (vfd W xs ys n (o ++ [ a ]) (ptrs W xs ys a) k1) (ldw xs ys (a + 2 + (ix (ptL ((ldw xs ys a / 4294967296) % 16777216) (ldw xs ys a % 4294967296) (Int.toNat ((ldw xs ys a / 4294967296) % 16777216))) k1))))) : List (Int × SV)) = (mpT (vfd W xs ys n (o ++ [a]) (ptrs W xs ys a) (k1 + 1))), (W : Int) = W, (false = true → false = true), ((m64 xs) : List SV) = (m64 xs), (false = true → false = true), ((m64 ys) : List SV) = (m64 ys)] (by kernel_rfl) ⟨rfl, rfl, id, rfl, rfl, (by first | rfl | exact congrArg mpT (addS_new ‹_›) | exact congrArg _ (vfd_nx (by omega) (by omega) (by omega))), rfl, rfl, rfl, id, rfl, id, rfl, (by first | rfl | exact congrArg mpT (addS_new ‹_›) | exact congrArg _ (vfd_nx (by omega) (by omega) (by omega))), rfl, id, rfl, id, rfl, trivial⟩) (by show (((ptL ((ldw xs ys a / 4294967296) % 16777216) (ldw xs ys a % 4294967296) (Int.toNat ((ldw xs ys a / 4294967296) % 16777216))).length : Int) - (k1 + 1)).toNat < (((ptL ((ldw xs ys a / 4294967296) % 16777216) (ldw xs ys a % 4294967296) (Int.toNat ((ldw xs ys a / 4294967296) % 16777216))).length : Int) - k1).toNat; omega)
     ·
      replace h17 : ¬ (k1 < ((ptL ((ldw xs ys a / 4294967296) % 16777216) (ldw xs ys a % 4294967296) (Int.toNat ((ldw xs ys a / 4294967296) % 16777216))).length : Int)) := of_decide_eq_false h17
      refine xw_exit ?_
      refine an_exit ?_
      refine ag_exit ?_
      refine ib_same ?_
      refine ⟨.tup [], by kernel_rfl, ?_⟩
      refine range_end (q := B8) (by kernel_rfl) (by rw [hB8]) ?_
      refine ib ?_
      exact ⟨.tup [], by kernel_rfl, _, ⟨rfl, rfl⟩, rfl, le_of [(5, 12)] [((m64 (vfd W xs ys n (o ++ [a]) (ptrs W xs ys a) k1)) : List SV) = (m64 (vis W xs ys (n + 1) o a)), ((mpT (vfd W xs ys n (o ++ [a]) (ptrs W xs ys a) k1)) : List (Int × SV)) = (mpT (vis W xs ys (n + 1) o a)), (W : Int) = W, (false = true → false = true), ((m64 xs) : List SV) = (m64 xs), (false = true → false = true), ((m64 ys) : List SV) = (m64 ys)] (by kernel_rfl) ⟨(by first | rfl | exact congrArg _ (vis_n1 (by omega)) | exact congrArg _ (vis_n2 ‹_›) | exact congrArg _ (vis_n3 ‹_›) | exact congrArg _ (vis_end (k := k1) (by omega) ‹_› ‹_› (by omega)) | exact congrArg _ (vis_end (k := 0) (by omega) ‹_› ‹_› (by omega))), (by first | rfl | exact congrArg _ (vis_n1 (by omega)) | exact congrArg _ (vis_n2 ‹_›) | exact congrArg _ (vis_n3 ‹_›) | exact congrArg _ (vis_end (k := k1) (by omega) ‹_› ‹_› (by omega)) | exact congrArg _ (vis_end (k := 0) (by omega) ‹_› ‹_› (by omega))), rfl, id, rfl, id, rfl, trivial⟩⟩
  ·
   refine pc (oat_2 W xs ys a ‹_› ‹_› ‹_› ‹_› ‹_› ‹_› ‹_›) ?_
   have h1 : (oErr W xs ys a) = 2 ∨ (oErr W xs ys a) = 10 := oErr_no W xs ys a (by omega)
   refine rk [] 6 3 ⟨[(7, .i (oErr W xs ys a)), (0, .u a), (1, .p 0), (2, .p 1), (3, .p 2), (4, .p 3)], [(5, .row 1 35 (m64 o)), (4, .mp true .u64 (mpT o)), (3, .cells [.fn 27 [] [.p 0, .p 1, .p 2, .p 3]] 63), (2, .cells [.own 5] 22), (1, .cells [.own 4] 51), (0, .cells (mm W xs ys) 25)], 7⟩ [True] ⟨trivial, trivial⟩ ?_
   refine en ?_
   refine an ?_
   refine rg [(1, .t)] 12 ⟨[(26, .t), (0, .u a), (1, .p 0), (2, .p 1), (3, .p 2), (4, .p 3)], [(5, .row 1 35 (m64 o)), (4, .mp true .u64 (mpT o)), (3, .cells [.fn 27 [] [.p 0, .p 1, .p 2, .p 3]] 63), (2, .cells [.own 5] 22), (1, .cells [.own 4] 51), (0, .cells (mm W xs ys) 25)], 7⟩ [((oErr W xs ys a) != 0) = true, True, True] ⟨bne_iff_ne.2 (by omega), trivial, trivial, trivial⟩ ?_
   refine ct ?_
   refine xw_ret ?_
   refine an_ret ?_
   exact ⟨.tup [], by kernel_rfl, _, ⟨rfl, rfl⟩, rfl, le_of [] [((m64 o) : List SV) = (m64 (vis W xs ys (n + 1) o a)), ((mpT o) : List (Int × SV)) = (mpT (vis W xs ys (n + 1) o a)), (W : Int) = W, (false = true → false = true), ((m64 xs) : List SV) = (m64 xs), (false = true → false = true), ((m64 ys) : List SV) = (m64 ys)] (by kernel_rfl) ⟨(by first | rfl | exact congrArg _ (vis_n1 (by omega)) | exact congrArg _ (vis_n2 ‹_›) | exact congrArg _ (vis_n3 ‹_›) | exact congrArg _ (vis_end (k := k1) (by omega) ‹_› ‹_› (by omega)) | exact congrArg _ (vis_end (k := 0) (by omega) ‹_› ‹_› (by omega))), (by first | rfl | exact congrArg _ (vis_n1 (by omega)) | exact congrArg _ (vis_n2 ‹_›) | exact congrArg _ (vis_n3 ‹_›) | exact congrArg _ (vis_end (k := k1) (by omega) ‹_› ‹_› (by omega)) | exact congrArg _ (vis_end (k := 0) (by omega) ‹_› ‹_› (by omega))), rfl, id, rfl, id, rfl, trivial⟩⟩

theorem wreach (W : Int) (xs ys l : List Int) (hp0 : 16 ≤ W ∧ W ≤ 4096) (hp1 : (xs.length : Int) = W) (hp2 : (ys.length : Int) = W) (hp3 : U64s xs) (hp4 : U64s ys) (hp5 : U64s l) (hp6 : (l.length : Int) ≤ 1000000) : Pub Try.prog 13 [.agg (mm W xs ys), .sl false 1 (m64 l)] (fun rv => rv = .sl false 1 (m64 (rch W xs ys l))) := by
 refine pub_of TT_ok Try.func13 rfl (by decide) (Nat.le_of_ble_eq_true (by kernel_rfl)) (by kernel_rfl) ?_
 refine rg [] 2 ⟨[(4, .nils), (2, .p 0), (1, .sl false 1 (m64 l))], [(0, .cells (mm W xs ys) 25)], 1⟩ [] trivial ?_
 refine rg [(0, .t)] 3 ⟨[(5, .p 2), (4, .nils), (2, .p 0), (1, .sl false 1 (m64 l))], [(2, .cells [.own 1] 51), (1, .mp true .u64 []), (0, .cells (mm W xs ys) 25)], 3⟩ [True, True] ⟨trivial, trivial, trivial⟩ ?_
 refine rg [] 1 ⟨[(6, .p 3), (5, .p 2), (4, .nils), (2, .p 0), (1, .sl false 1 (m64 l))], [(3, .cells [.nils] 22), (2, .cells [.own 1] 51), (1, .mp true .u64 []), (0, .cells (mm W xs ys) 25)], 4⟩ [] trivial ?_
 refine rg [] 1 ⟨[(7, .p 4), (6, .p 3), (5, .p 2), (4, .nils), (2, .p 0), (1, .sl false 1 (m64 l))], [(4, .cells [.raw .nilFunc] 63), (3, .cells [.nils] 22), (2, .cells [.own 1] 51), (1, .mp true .u64 []), (0, .cells (mm W xs ys) 25)], 5⟩ [] trivial ?_
 refine rg [] 2 ⟨[(7, .p 4), (6, .p 3), (4, .nils), (1, .sl false 1 (m64 l))], [(4, .cells [.fn 27 [] [.p 0, .p 2, .p 3, .p 4]] 63), (3, .cells [.nils] 22), (2, .cells [.own 1] 51), (1, .mp true .u64 []), (0, .cells (mm W xs ys) 25)], 5⟩ [True] ⟨trivial, trivial⟩ ?_
 refine xw_seq ?_
 refine rg [(1, .i ((l).length : Int))] 3 ⟨[(14, .i 0), (13, .i ((l).length : Int)), (12, .sl false 1 (m64 l)), (7, .p 4), (6, .p 3), (4, .nils)], [(4, .cells [.fn 27 [] [.p 0, .p 2, .p 3, .p 4]] 63), (3, .cells [.nils] 22), (2, .cells [.own 1] 51), (1, .mp true .u64 []), (0, .cells (mm W xs ys) 25)], 5⟩ [((((m64 l)).length : Nat) : Int) = ((l).length : Int)] ⟨(by simp), trivial⟩ ?_
 refine xw_block ?_
 refine xw_nilcell 3 0 1 35 22 (l := [.nils]) (by kernel_rfl) (by kernel_rfl) ?_
 refine xw_loop (α := {q : Int // (0 ≤ q) ∧ (q ≤ (l.length : Int))}) (fun p => ⟨[(14, .i p.1), (13, .i ((l).length : Int)), (12, .sl false 1 (m64 l)), (7, .p 4), (6, .p 3), (4, .nils)], [(5, .row 1 35 (m64 (vfd W xs ys fuelN [] l p.1))), (4, .cells [.fn 27 [] [.p 0, .p 2, .p 3, .p 4]] 63), (3, .cells [.own 5] 22), (2, .cells [.own 1] 51), (1, .mp true .u64 (mpT (vfd W xs ys fuelN [] l p.1))), (0, .cells (mm W xs ys) 25)], 6⟩) (fun p => ((l.length : Int) - p.1).toNat) ⟨0, ⟨(by omega), (by omega)⟩⟩ (le_of [] [(0 : Int) = 0, (((l).length : Int) : Int) = ((l).length : Int), (false = true → false = true), ((m64 l) : List SV) = (m64 l), ((m64 []) : List SV) = (m64 (vfd W xs ys fuelN [] l 0)), ([] : List (Int × SV)) = (mpT (vfd W xs ys fuelN [] l 0)), (W : Int) = W, (false = true → false = true), ((m64 xs) : List SV) = (m64 xs), (false = true → false = true), ((m64 ys) : List SV) = (m64 ys)] (by kernel_rfl) ⟨rfl, rfl, id, rfl, (by first | rfl | exact congrArg _ (vfd_next (by omega) (by omega))), (by first | rfl | exact congrArg _ (vfd_next (by omega) (by omega))), rfl, id, rfl, id, rfl, trivial⟩) ?_
 rintro ⟨i1, h0, h1⟩
 show XW _ _ _ _ _ _ ⟨[(14, .int .i64 i1), (13, .int .i64 ((l).length : Int)), (12, .sl false 1 (m64 l)), (7, .loc 4 0), (6, .loc 3 0), (4, .nils)], [(5, .row 1 35 (m64 (vfd W xs ys fuelN [] l i1))), (4, .cells [.fn 27 [] [.loc 0 0, .loc 2 0, .loc 3 0, .loc 4 0]] 63), (3, .cells [.own 5] 22), (2, .cells [.own 1] 51), (1, .mp true .u64 (mpT (vfd W xs ys fuelN [] l i1))), (0, .cells (mm W xs ys) 25)], 6⟩
 refine rg [(0, .bool (decide (i1 < ((l).length : Int))))] 1 ⟨[(15, .bool (decide (i1 < ((l).length : Int)))), (14, .i i1), (13, .i ((l).length : Int)), (12, .sl false 1 (m64 l)), (7, .p 4), (6, .p 3), (4, .nils)], [(5, .row 1 35 (m64 (vfd W xs ys fuelN [] l i1))), (4, .cells [.fn 27 [] [.p 0, .p 2, .p 3, .p 4]] 63), (3, .cells [.own 5] 22), (2, .cells [.own 1] 51), (1, .mp true .u64 (mpT (vfd W xs ys fuelN [] l i1))), (0, .cells (mm W xs ys) 25)], 6⟩ [(decide (i1 < ((l).length : Int))) = (decide (i1 < ((l).length : Int)))] ⟨rfl, trivial⟩ ?_
 refine xw_seq ?_
 refine xw_cond (b := (decide (i1 < ((l).length : Int)))) (by kernel_rfl) (fun h2 => ?_) (fun h2 => ?_)
 ·
  replace h2 : i1 < (l.length : Int) := of_decide_eq_true h2
  refine xw_skip ?_
  refine an ?_
  refine xw_seq ?_
  refine xw_block ?_
  refine xw_seq ?_
  refine reg ?_
  refine rk [(0, .u (ix l i1))] 1 0 ⟨[(16, .elt (.u (ix l i1))), (14, .i i1), (13, .i ((l).length : Int)), (12, .sl false 1 (m64 l)), (7, .p 4), (6, .p 3), (4, .nils)], [(5, .row 1 35 (m64 (vfd W xs ys fuelN [] l i1))), (4, .cells [.fn 27 [] [.p 0, .p 2, .p 3, .p 4]] 63), (3, .cells [.own 5] 22), (2, .cells [.own 1] 51), (1, .mp true .u64 (mpT (vfd W xs ys fuelN [] l i1))), (0, .cells (mm W xs ys) 25)], 6⟩ [(0 : Int) ≤ i1 ∧ i1 < ((((m64 l)).length : Nat) : Int) ∧ ((m64 l))[(i1 : Int).toNat]? = some (.u (ix l i1))] ⟨(ix_ok (by omega) (by first | omega | (simp only [len_st]; omega) | (simp; done) | (simp; omega) | (simp [len_st, len_stx, len_sty, len_zx, len_zy]; omega))), trivial⟩ ?_
  have h3 : 0 ≤ (ix l i1) ∧ (ix l i1) ≤ 18446744073709551615 := U64s.ix (by first | assumption | exact U64s.st (by assumption) _ (by omega)) _
  refine rk [] 2 1 ⟨[(9, .u (ix l i1)), (14, .i i1), (13, .i ((l).length : Int)), (12, .sl false 1 (m64 l)), (7, .p 4), (6, .p 3), (4, .nils)], [(5, .row 1 35 (m64 (vfd W xs ys fuelN [] l i1))), (4, .cells [.fn 27 [] [.p 0, .p 2, .p 3, .p 4]] 63), (3, .cells [.own 5] 22), (2, .cells [.own 1] 51), (1, .mp true .u64 (mpT (vfd W xs ys fuelN [] l i1))), (0, .cells (mm W xs ys) 25)], 6⟩ [True] ⟨trivial, trivial⟩ ?_
  refine en ?_
  refine an ?_
  refine reg ?_
  refine rk [] 2 0 ⟨[(19, .u (ix l i1)), (18, .fn 27 [] [.p 0, .p 2, .p 3, .p 4]), (14, .i i1), (13, .i ((l).length : Int)), (12, .sl false 1 (m64 l)), (7, .p 4), (6, .p 3), (4, .nils)], [(5, .row 1 35 (m64 (vfd W xs ys fuelN [] l i1))), (4, .cells [.fn 27 [] [.p 0, .p 2, .p 3, .p 4]] 63), (3, .cells [.own 5] 22), (2, .cells [.own 1] 51), (1, .mp true .u64 (mpT (vfd W xs ys fuelN [] l i1))), (0, .cells (mm W xs ys) 25)], 6⟩ [True] ⟨trivial, trivial⟩ ?_
  refine mcall1 (d := (some 20)) [0, 2, 3, 4, 1, 5] (visit W xs ys hp0 hp1 hp2 hp3 hp4 fuelN (vfd W xs ys fuelN [ ] l i1) (ix l i1) (vfd_ok (vk_nil (by omega))).1 (fre_fuel (by omega)) ‹_›) ⟨[(20, .tup []), (19, .u (ix l i1)), (18, .fn 27 [] [.p 0, .p 2, .p 3, .p 4]), (14, .i i1), (13, .i ((l).length : Int)), (12, .sl false 1 (m64 l)), (7, .p 4), (6, .p 3), (4, .nils)], [(6, .row 1 35 (m64 (vis W xs ys fuelN (vfd W xs ys fuelN [ ] l i1) (ix l i1)))), (1, .mp true .u64 (mpT (vis W xs ys fuelN (vfd W xs ys fuelN [ ] l i1) (ix l i1)))), (4, .cells [.fn 27 [] [.p 0, .p 2, .p 3, .p 4]] 63), (3, .cells [.own 6] 22), (2, .cells [.own 1] 51), (0, .cells (mm W xs ys) 25)], 7⟩ ⟨by kernel_rfl, by kernel_rfl, by kernel_rfl, by kernel_rfl, by kernel_rfl, by kernel_rfl, trivial⟩ ?_
  refine en ?_
  refine ib ?_
  refine an ?_
  refine re [(0, .i (i1 + 1))] 2 ⟨[(14, .i (i1 + 1)), (13, .i ((l).length : Int)), (12, .sl false 1 (m64 l)), (7, .p 4), (6, .p 3), (4, .nils)], [(6, .row 1 35 (m64 (vis W xs ys fuelN (vfd W xs ys fuelN [ ] l i1) (ix l i1)))), (1, .mp true .u64 (mpT (vis W xs ys fuelN (vfd W xs ys fuelN [ ] l i1) (ix l i1)))), (4, .cells [.fn 27 [] [.p 0, .p 2, .p 3, .p 4]] 63), (3, .cells [.own 6] 22), (2, .cells [.own 1] 51), (0, .cells (mm W xs ys) 25)], 7⟩ [IntKind.i64.wrap (i1 + 1) = (i1 + 1)] ⟨i64_eq (by omega) (by omega), trivial⟩ ?_
  exact ag ⟨(i1 + 1), ⟨(by omega), (by omega)⟩⟩ (le_of [(5, 6)] [((i1 + 1) : Int) = (i1 + 1), (((l).length : Int) : Int) = ((l).length : Int), (false = true → false = true), ((m64 l) : List SV) = (m64 l), ((m64 (vis W xs ys fuelN (vfd W xs ys fuelN [ ] l i1) (ix l i1))) : List SV) = (m64 (vfd W xs ys fuelN [] l (i1 + 1))), ((mpT (vis W xs ys fuelN (vfd W xs ys fuelN [ ] l i1) (ix l i1))) : List (Int × SV)) = (mpT (vfd W xs ys fuelN [] l (i1 + 1))), (W : Int) = W, (false = true → false = true), ((m64 xs) : List SV) = (m64 xs), (false = true → false = true), ((m64 ys) : List SV) = (m64 ys)] (by kernel_rfl) ⟨rfl, rfl, id, rfl, (by first | rfl | exact congrArg _ (vfd_next (by omega) (by omega))), (by first | rfl | exact congrArg _ (vfd_next (by omega) (by omega))), rfl, id, rfl, id, rfl, trivial⟩) (by show ((l.length : Int) - (i1 + 1)).toNat < ((l.length : Int) - i1).toNat; omega)
 ·
  replace h2 : ¬ (i1 < (l.length : Int)) := of_decide_eq_false h2
  refine xw_exit ?_
  refine an_exit ?_
  refine ag_exit ?_
  refine ib_same ?_
  refine an ?_
  refine rg [] 2 ⟨[(4, .own 5)], [(5, .row 1 35 (m64 (vfd W xs ys fuelN [] l i1)))], 6⟩ [True] ⟨trivial, trivial⟩ ?_
  refine xw_ret ?_
  exact bk_ret (.own 5) (.sl false 1 (m64 (vfd W xs ys fuelN [] l i1))) (.sl false 1 (m64 (rch W xs ys l))) (by kernel_rfl) (by kernel_rfl) (wkd [(false = true → false = true), (m64 (vfd W xs ys fuelN [] l i1)) = (m64 (rch W xs ys l))] (by kernel_rfl) ⟨id, (by first | rfl | exact congrArg _ (rch_end (by omega))), trivial⟩) rfl

end Go.Proofs.Ytlapjlbmhaalbaa.X
