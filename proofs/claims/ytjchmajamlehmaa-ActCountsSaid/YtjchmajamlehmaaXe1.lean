/- Contracts of Go functions: what each returns, for every input that its premises name; no memory of the caller is touched. Printed by a program. -/
import Derived.Test.YtjchmajamlehmaaXd1
import Derived.Test.YtjchmajamlehmaaXq2
namespace Go.Proofs.Ytjchmajamlehmaa.X
open Go Go.RowKit
set_option linter.unusedVariables false      -- a premise may serve only to tell which way is taken
set_option linter.unusedSimpArgs false
theorem gap (W : Int) (xs ys : List Int) (s b l p q : Int) (hp0 : 0 ≤ p ∧ p ≤ q ∧ q ≤ 4096) : Pub Try.prog 61 [.agg (mr W xs ys (r5 s b l p q))] (fun rv => rv = .i (q - p)) := by
 refine pub_of TT_ok Try.func61 rfl (by decide) (Nat.le_of_ble_eq_true (by kernel_rfl)) (by kernel_rfl) ?_
 refine rgi [] 2 [2, 1] [0] [] trivial ?_
 refine rgi [(6, .i (q - p))] 8 [2] [] [True, True, IntKind.i64.wrap (q - p) = (q - p)] ⟨trivial, trivial, i64_eq (by omega) (by omega), trivial⟩ ?_
 refine xw_ret ?_
 exact bs (.i (q - p)) rfl

theorem retire (W : Int) (xs ys : List Int) (s b l p q : Int) (hp0 : 16 ≤ W ∧ W ≤ 4096) (hp1 : (xs.length : Int) = W) (hp2 : (ys.length : Int) = W) (hp3 : U64s xs) (hp4 : U64s ys) (hp5 : (s = 0 ∨ s = 1) ∧ 0 ≤ b ∧ b ≤ l ∧ l ≤ 4096) (hp6 : l = W) (hp7 : 0 ≤ p ∧ p ≤ q ∧ q ≤ b) : Pub Try.prog 65 [.agg (mr W xs ys (r5 s b l p q))] (fun rv => rv = .agg (mr W (rtx xs s p q) (rty ys s p q) (r5 s b l 0 0))) := by
 refine pub_of TT_ok Try.func65 rfl (by decide) (Nat.le_of_ble_eq_true (by kernel_rfl)) (by kernel_rfl) ?_
 refine rgi [] 2 [2, 1] [1, 0] [] trivial ?_
 refine xw_seq ?_
 refine xw_seq ?_
 refine reg ?_
 refine rki [] 1 0 [3, 2, 1] [1, 0] [True] ⟨trivial, trivial⟩ ?_
 refine pc (gap W xs ys s b l p q (by omega)) ?_
 refine rki [(2, .bool (decide (0 < (q - p))))] 1 2 [5, 2, 1] [1, 0] [sm (decide (0 < (q - p)))] ⟨rfl, trivial⟩ ?_
 refine en ?_
 refine an ?_
 refine xw_cond (b := (decide (0 < (q - p)))) (by kernel_rfl) (fun h0 => ?_) (fun h0 => ?_)
 ·
  replace h0 : 0 < (q - p) := of_decide_eq_true h0
  refine sreg hmix [([(1, .cells z8 93), (0, .cells (mr W xs ys (r5 s b l p q)) 93)], 2), ([(1, .cells z8 93), (0, .cells (mr W (px xs ((s + 1) * 4294967296 + p) 255 ((q - p) - 1) 0) (py ys ((s + 1) * 4294967296 + p) 255 ((q - p) - 1) 0) (r5 s b l p q)) 93)], 2)] [16] [(1, [0]), (3, [2]), (4, [2, 3]), (6, [5]), (7, [5, 6]), (8, [2, 3, 4, 5, 6, 7]), (10, [2, 3, 4, 5, 6, 7, 8, 9]), (11, [0, 1, 2, 3, 4, 5, 6, 7, 8, 9, 10]), (12, [0, 1, 2, 3, 4, 5, 6, 7, 8, 9, 10, 11]), (13, [0, 1, 2, 3, 4, 5, 6, 7, 8, 9, 10, 11, 12]), (14, [0, 1, 2, 3, 4, 5, 6, 7, 8, 9, 10, 11, 12]), (15, [0, 1, 2, 3, 4, 5, 6, 7, 8, 9, 10, 11, 12, 13]), (16, [0, 1, 2, 3, 4, 5, 6, 7, 8, 9, 10, 11, 12, 13, 15])] (by kernel_rfl) (by kernel_rfl) (by kernel_rfl) (by kernel_rfl) (by kernel_rfl) ?_
  refine sri [] 8 0 [True, True, True, True, True, True, True, True] ⟨trivial, trivial, trivial, trivial, trivial, trivial, trivial, trivial, trivial⟩ ?_
  refine sc (addr_1 s p (by omega)) ?_
  refine sri [] 1 9 [True] ⟨trivial, trivial⟩ ?_
  refine sc (gap W xs ys s b l p q (by omega)) ?_
  refine sc (ofill_1 W xs ys ((s + 1) * 4294967296 + p) (q - p) ‹_› ‹_› ‹_› ‹_› ‹_› (by omega) (by omega) (by omega) (by omega) (by omega)) ?_
  obtain ⟨h1, h2, h3, h4, h5, h6⟩ := fill_ok W xs ys ((s + 1) * 4294967296 + p) (q - p) ‹_› ‹_› ‹_› ‹_› (by omega) (by omega) (by omega) (by omega)
  refine sri [] 5 12 [True, True, True, True, True, sm ([(1, .cells z8 93), (0, .cells (mr W (px xs ((s + 1) * 4294967296 + p) 255 ((q - p) - 1) 0) (py ys ((s + 1) * 4294967296 + p) 255 ((q - p) - 1) 0) (r5 s b l p q)) 93)] : Mem), sm (2 : Nat)] ⟨trivial, trivial, trivial, trivial, trivial, rfl, rfl, trivial⟩ ?_
  refine sen ?_
  refine an ?_
  refine rg [] 3 ⟨[(2, .p 1), (1, .p 0)], [(1, .cells z8 93), (0, .cells (mr W (px xs ((s + 1) * 4294967296 + p) 255 ((q - p) - 1) 0) (py ys ((s + 1) * 4294967296 + p) 255 ((q - p) - 1) 0) (r5 s b l 0 0)) 93)], 2⟩ [True] ⟨trivial, trivial⟩ ?_
  refine rgi [] 2 [2] [1] [True, True] ⟨trivial, trivial, trivial⟩ ?_
  refine xw_ret ?_
  exact br (.agg (mr W (px xs ((s + 1) * 4294967296 + p) 255 ((q - p) - 1) 0) (py ys ((s + 1) * 4294967296 + p) 255 ((q - p) - 1) 0) (r5 s b l 0 0))) (.agg (mr W (rtx xs s p q) (rty ys s p q) (r5 s b l 0 0))) (wkd [(W : Int) = W, (false = true → false = true), (m64 (px xs ((s + 1) * 4294967296 + p) 255 ((q - p) - 1) 0)) = (m64 (rtx xs s p q)), (false = true → false = true), (m64 (py ys ((s + 1) * 4294967296 + p) 255 ((q - p) - 1) 0)) = (m64 (rty ys s p q)), (s : Int) = s, (b : Int) = b, (l : Int) = l, (0 : Int) = 0, (0 : Int) = 0] (by kernel_rfl) ⟨rfl, id, (by first | rfl | omega | exact congrArg _ (rtx_p (by omega)) | exact congrArg _ (rty_p (by omega)) | exact congrArg _ (rtx_0 (by omega)) | exact congrArg _ (rty_0 (by omega))), id, (by first | rfl | omega | exact congrArg _ (rtx_p (by omega)) | exact congrArg _ (rty_p (by omega)) | exact congrArg _ (rtx_0 (by omega)) | exact congrArg _ (rty_0 (by omega))), rfl, rfl, rfl, rfl, rfl, trivial⟩) rfl
 ·
  replace h0 : ¬ (0 < (q - p)) := of_decide_eq_false h0
  refine xw_skip ?_
  refine an ?_
  refine rg [] 3 ⟨[(2, .p 1), (1, .p 0)], [(1, .cells z8 93), (0, .cells (mr W xs ys (r5 s b l 0 0)) 93)], 2⟩ [True] ⟨trivial, trivial⟩ ?_
  refine rgi [] 2 [2] [1] [True, True] ⟨trivial, trivial, trivial⟩ ?_
  refine xw_ret ?_
  exact br (.agg (mr W xs ys (r5 s b l 0 0))) (.agg (mr W (rtx xs s p q) (rty ys s p q) (r5 s b l 0 0))) (wkd [(W : Int) = W, (false = true → false = true), (m64 xs) = (m64 (rtx xs s p q)), (false = true → false = true), (m64 ys) = (m64 (rty ys s p q)), (s : Int) = s, (b : Int) = b, (l : Int) = l, (0 : Int) = 0, (0 : Int) = 0] (by kernel_rfl) ⟨rfl, id, (by first | rfl | omega | exact congrArg _ (rtx_p (by omega)) | exact congrArg _ (rty_p (by omega)) | exact congrArg _ (rtx_0 (by omega)) | exact congrArg _ (rty_0 (by omega))), id, (by first | rfl | omega | exact congrArg _ (rtx_p (by omega)) | exact congrArg _ (rty_p (by omega)) | exact congrArg _ (rtx_0 (by omega)) | exact congrArg _ (rty_0 (by omega))), rfl, rfl, rfl, rfl, rfl, trivial⟩) rfl

set_option maxHeartbeats 8000000 in
theorem bmake (W : Int) (xs ys : List Int) (s b l p q n t f m : Int) (hp0 : 16 ≤ W ∧ W ≤ 4096) (hp1 : (xs.length : Int) = W) (hp2 : (ys.length : Int) = W) (hp3 : U64s xs) (hp4 : U64s ys) (hp5 : (s = 0 ∨ s = 1) ∧ 0 ≤ b ∧ b ≤ l ∧ l ≤ 4096) (hp6 : l = W) (hp7 : 0 ≤ p ∧ p ≤ q ∧ q ≤ b) (hp8 : -9223372036854775808 ≤ t ∧ t ≤ 9223372036854775807) (hp9 : -9223372036854775808 ≤ f ∧ f ≤ 9223372036854775807) (hp10 : 0 ≤ m ∧ m ≤ 18446744073709551615) (hp11 : -9223372036854775808 ≤ n ∧ n ≤ 9223372036854775807) : Pub Try.prog 48 [.agg (mr W xs ys (r5 s b l p q)), .agg [.i t, .i f, .u m], .i n] (fun rv => ((¬ (((t = 255 ∧ 0 ≤ f ∧ f ≤ 65535 ∧ m = 0) ∨ (1 ≤ t ∧ t ≤ 200 ∧ 0 ≤ f ∧ f ≤ 16 ∧ m < 2 ^ (Int.toNat f) ∧ m < 65536)) ∧ t ≠ 255)) ∧ rv = .tup [.agg (mr W xs ys (r5 s b l p q)), .u 0, .i 1]) ∨ (((t = 255 ∧ 0 ≤ f ∧ f ≤ 65535 ∧ m = 0) ∨ (1 ≤ t ∧ t ≤ 200 ∧ 0 ≤ f ∧ f ≤ 16 ∧ m < 2 ^ (Int.toNat f) ∧ m < 65536)) ∧ (t ≠ 255) ∧ (f + 2 ≤ q - p) ∧ rv = .tup [.agg (mr W (px xs ((s + 1) * 4294967296 + p) t f m) (py ys ((s + 1) * 4294967296 + p) t f m) (r5 s b l (p + (f + 2)) q)), .u ((s + 1) * 4294967296 + p), .i 0]) ∨ (((t = 255 ∧ 0 ≤ f ∧ f ≤ 65535 ∧ m = 0) ∨ (1 ≤ t ∧ t ≤ 200 ∧ 0 ≤ f ∧ f ≤ 16 ∧ m < 2 ^ (Int.toNat f) ∧ m < 65536)) ∧ (t ≠ 255) ∧ (q - p < f + 2) ∧ (n < 2 * (f + 2)) ∧ (f + 2 ≤ l - b) ∧ rv = .tup [.agg (mr W (px xs ((s + 1) * 4294967296 + b) t f m) (py ys ((s + 1) * 4294967296 + b) t f m) (r5 s (b + (f + 2)) l p q)), .u ((s + 1) * 4294967296 + b), .i 0]) ∨ (((t = 255 ∧ 0 ≤ f ∧ f ≤ 65535 ∧ m = 0) ∨ (1 ≤ t ∧ t ≤ 200 ∧ 0 ≤ f ∧ f ≤ 16 ∧ m < 2 ^ (Int.toNat f) ∧ m < 65536)) ∧ (t ≠ 255) ∧ (q - p < f + 2) ∧ (n < 2 * (f + 2)) ∧ (l - b < f + 2) ∧ rv = .tup [.agg (mr W xs ys (r5 s b l p q)), .u 0, .i 4]) ∨ (((t = 255 ∧ 0 ≤ f ∧ f ≤ 65535 ∧ m = 0) ∨ (1 ≤ t ∧ t ≤ 200 ∧ 0 ≤ f ∧ f ≤ 16 ∧ m < 2 ^ (Int.toNat f) ∧ m < 65536)) ∧ (t ≠ 255) ∧ (q - p < f + 2) ∧ (2 * (f + 2) ≤ n) ∧ (l - b < f + 2) ∧ rv = .tup [.agg (mr W (rtx xs s p q) (rty ys s p q) (r5 s b l 0 0)), .u 0, .i 4]) ∨ (((t = 255 ∧ 0 ≤ f ∧ f ≤ 65535 ∧ m = 0) ∨ (1 ≤ t ∧ t ≤ 200 ∧ 0 ≤ f ∧ f ≤ 16 ∧ m < 2 ^ (Int.toNat f) ∧ m < 65536)) ∧ (t ≠ 255) ∧ (q - p < f + 2) ∧ (2 * (f + 2) ≤ n) ∧ (f + 2 ≤ l - b) ∧ rv = .tup [.agg (mr W (px (rtx xs s p q) ((s + 1) * 4294967296 + b) t f m) (py (rty ys s p q) ((s + 1) * 4294967296 + b) t f m) (r5 s (b + (min n (l - b))) l (b + (f + 2)) (b + (min n (l - b))))), .u ((s + 1) * 4294967296 + b), .i 0])) := by
 refine pub_of TT_ok Try.func48 rfl (by decide) (Nat.le_of_ble_eq_true (by kernel_rfl)) (by kernel_rfl) ?_
 refine rgi [] 5 [8, 7, 6, 4, 3, 2] [2, 1, 0] [] trivial ?_
 refine xw_scope_u 0 2 rfl ?_
 refine xw_seq ?_
 refine xw_seq ?_
 refine reg ?_
 refine rki [] 1 0 [18, 8, 7, 6, 4, 3, 2] [2, 1, 0] [True] ⟨trivial, trivial⟩ ?_
 by_cases h0 : (t = 255 ∧ 0 ≤ f ∧ f ≤ 65535 ∧ m = 0) ∨ (1 ≤ t ∧ t ≤ 200 ∧ 0 ≤ f ∧ f ≤ 16 ∧ m < 2 ^ (Int.toNat f) ∧ m < 65536)
 ·
  refine pc (hright_1 t f m ‹_› ‹_› ‹_› ‹_›) ?_
  refine rki [(2, .f), (6, .bool (t == 255))] 6 2 [25, 8, 7, 6, 4, 3, 2] [2, 1, 0] [(0 != 0) = false, True, sm (t == 255), True] ⟨bne_eq_false_iff_eq.2 (by omega), trivial, rfl, trivial, trivial⟩ ?_
  refine en ?_
  refine an ?_
  refine xw_cond (b := (t == 255)) (by kernel_rfl) (fun h1 => ?_) (fun h1 => ?_)
  ·
   replace h1 : t = 255 := eq_of_beq h1
   refine rg [] 4 ⟨[(8, .i 1), (7, .u 0), (6, .p 2), (4, .p 1), (3, .p 0), (2, .i n)], [(2, .cells (mr W xs ys (r5 s b l p q)) 93), (1, .cells [.i t, .i f, .u m] 49), (0, .cells (mr W xs ys (r5 s b l p q)) 93)], 3⟩ [True, True] ⟨trivial, trivial, trivial⟩ ?_
   refine xw_ret ?_
   refine an_ret ?_
   refine juu_ret ?_
   exact bs (.tup [.agg (mr W xs ys (r5 s b l p q)), .u 0, .i 1]) (Or.inl <| ⟨(by first | rfl | omega), rfl⟩)
  ·
   replace h1 : t ≠ 255 := ne_of_beq_false h1
   refine xw_skip ?_
   refine an ?_
   refine xw_seq ?_
   refine reg ?_
   refine rk [] 1 0 ⟨[(27, .agg [.i t, .i f, .u m]), (8, .i 0), (7, .u 0), (6, .p 2), (4, .p 1), (3, .p 0), (2, .i n)], [(2, .cells z8 93), (1, .cells [.i t, .i f, .u m] 49), (0, .cells (mr W xs ys (r5 s b l p q)) 93)], 3⟩ [True] ⟨trivial, trivial⟩ ?_
   refine pc (hwords_2 t f m ‹_› ‹_› ‹_› (by omega) (by omega)) ?_
   refine rki [] 1 2 [9, 8, 7, 6, 4, 3, 2] [2, 1, 0] [] trivial ?_
   refine en ?_
   refine an ?_
   refine rgi [] 2 [10, 9, 8, 7, 6, 3, 2] [2, 1, 0] [] trivial ?_
   refine xw_seq ?_
   refine xw_label ?_
   refine an ?_
   refine xw_seq ?_
   refine xw_block ?_
   refine xw_seq ?_
   refine xw_block ?_
   refine xw_seq ?_
   refine xw_block ?_
   refine xw_seq ?_
   refine xw_block ?_
   refine xw_seq ?_
   refine xw_seq ?_
   refine xw_seq ?_
   refine reg ?_
   refine rki [] 2 0 [32, 31, 10, 9, 8, 7, 6, 3, 2] [2, 1, 0] [True] ⟨trivial, trivial⟩ ?_
   refine pc (gap W xs ys s b l p q (by omega)) ?_
   refine rk [(3, .bool (decide ((f + 2) ≤ (q - p))))] 2 3 ⟨[(30, .bool (decide ((f + 2) ≤ (q - p)))), (10, .fn 59 [] [.p 0, .p 1]), (9, .i (f + 2)), (8, .i 0), (7, .u 0), (6, .p 2), (3, .p 0), (2, .i n)], [(2, .cells z8 93), (1, .cells [.i t, .i f, .u m] 49), (0, .cells (mr W xs ys (r5 s b l p q)) 93)], 3⟩ [sm (decide ((f + 2) ≤ (q - p)))] ⟨rfl, trivial⟩ ?_
   refine en ?_
   refine an ?_
   refine xw_cond (b := (decide ((f + 2) ≤ (q - p)))) (by kernel_rfl) (fun h2 => ?_) (fun h2 => ?_)
   ·
    replace h2 : (f + 2) ≤ (q - p) := of_decide_eq_true h2
    refine xw_exit ?_
    refine an_exit ?_
    refine an_exit ?_
    refine ib_same ?_
    refine an ?_
    refine xw_seq ?_
    refine xw_seq ?_
    refine reg ?_
    refine rki [] 6 0 [51, 48, 10, 9, 8, 7, 6, 3, 2] [2, 1, 0] [True, True] ⟨trivial, trivial, trivial⟩ ?_
    refine pc (addr_1 s p (by omega)) ?_
    refine rki [] 1 7 [11, 10, 9, 8, 7, 6, 3, 2] [2, 1, 0] [] trivial ?_
    refine en ?_
    refine an ?_
    refine rgi [(4, .i (p + (f + 2)))] 8 [11, 10, 9, 8, 7, 6, 3, 2] [2, 1, 0] [True, IntKind.i64.wrap (p + (f + 2)) = (p + (f + 2)), True] ⟨trivial, i64_eq (by omega) (by omega), trivial, trivial⟩ ?_
    refine xw_seq ?_
    refine reg ?_
    refine rk [] 2 0 ⟨[(61, .u ((s + 1) * 4294967296 + p)), (60, .fn 59 [] [.p 0, .p 1]), (10, .fn 59 [] [.p 0, .p 1]), (9, .i (f + 2)), (8, .i 0), (7, .u 0), (6, .p 2), (3, .p 0), (2, .i n)], [(2, .cells z8 93), (1, .cells [.i t, .i f, .u m] 49), (0, .cells (mr W xs ys (r5 s b l (p + (f + 2)) q)) 93)], 3⟩ [] trivial ?_
    refine callx (f := 59) (args := [.u ((s + 1) * 4294967296 + p), .p 0, .p 1]) (d := (some 62)) (by kernel_rfl) (xcall_of TT_ok Try.func59 rfl (by decide) (Nat.le_of_ble_eq_true (by kernel_rfl)) ?_)
    refine rgi [] 3 [6, 5, 4, 0, 1, 2] [3, 2, 1, 0] [] trivial ?_
    refine xw_seq ?_
    refine reg ?_
    refine rki [] 4 0 [11, 10, 9, 6, 5, 4, 0, 1] [3, 2, 1, 0] [True, True] ⟨trivial, trivial, trivial⟩ ?_
    refine pc (oput_1 W xs ys ((s + 1) * 4294967296 + p) t f m ‹_› ‹_› ‹_› ‹_› ‹_› (by omega) ‹_› ‹_› ‹_› ‹_› (by omega) (by omega)) ?_
    obtain ⟨h3, h4, h5, h6, h7, h8⟩ := put_ok W xs ys ((s + 1) * 4294967296 + p) t f m ‹_› ‹_› ‹_› ‹_› (by omega) (by omega) (by omega) (by first | omega | decide) (by omega)
    refine rki [] 5 5 [6, 5, 4, 0, 1] [3, 2, 1, 0] [True] ⟨trivial, trivial⟩ ?_
    refine en ?_
    refine an ?_
    refine rg [] 5 ⟨[(6, .i 0), (5, .u ((s + 1) * 4294967296 + p)), (4, .p 3)], [(3, .cells (mr W (px xs ((s + 1) * 4294967296 + p) t f m) (py ys ((s + 1) * 4294967296 + p) t f m) (r5 s b l (p + (f + 2)) q)) 93), (2, .cells z8 93), (1, .cells [.i t, .i f, .u m] 49), (0, .cells (mr W (px xs ((s + 1) * 4294967296 + p) t f m) (py ys ((s + 1) * 4294967296 + p) t f m) (r5 s b l (p + (f + 2)) q)) 93)], 4⟩ [True, True] ⟨trivial, trivial, trivial⟩ ?_
    refine xw_ret ?_
    refine ⟨.tup [.agg (mr W (px xs ((s + 1) * 4294967296 + p) t f m) (py ys ((s + 1) * 4294967296 + p) t f m) (r5 s b l (p + (f + 2)) q)), .u ((s + 1) * 4294967296 + p), .i 0], by kernel_rfl, ?_⟩
    refine rki [] 6 3 [8, 7, 10, 9, 6, 3, 2] [2, 1, 0] [True] ⟨trivial, trivial⟩ ?_
    refine en ?_
    refine an ?_
    refine xw_ret ?_
    refine an_ret ?_
    refine ib_ret ?_
    refine an_ret ?_
    refine ib_ret ?_
    refine an_ret ?_
    refine ib_ret ?_
    refine an_ret ?_
    refine juu_ret ?_
    exact bs (.tup [.agg (mr W (px xs ((s + 1) * 4294967296 + p) t f m) (py ys ((s + 1) * 4294967296 + p) t f m) (r5 s b l (p + (f + 2)) q)), .u ((s + 1) * 4294967296 + p), .i 0]) (Or.inr <| Or.inl <| ⟨(by first | rfl | omega), (by omega), (by omega), rfl⟩)
   ·
    replace h2 : ¬ ((f + 2) ≤ (q - p)) := of_decide_eq_false h2
    refine xw_skip ?_
    refine an ?_
    refine xw_seq ?_
    refine rgi [(1, .i (2 * (f + 2))), (3, .bool (decide (n < (2 * (f + 2)))))] 5 [35, 10, 9, 8, 7, 6, 3, 2] [2, 1, 0] [IntKind.i64.wrap (2 * (f + 2)) = (2 * (f + 2)), sm (decide (n < (2 * (f + 2))))] ⟨i64_eq (by omega) (by omega), rfl, trivial⟩ ?_
    refine xw_cond (b := (decide (n < (2 * (f + 2))))) (by kernel_rfl) (fun h3 => ?_) (fun h3 => ?_)
    ·
     replace h3 : n < (2 * (f + 2)) := of_decide_eq_true h3
     refine xw_exit ?_
     refine an_exit ?_
     refine an_exit ?_
     refine ib_exit (by kernel_rfl) ?_
     refine an_exit ?_
     refine ib_same ?_
     refine an ?_
     refine xw_seq ?_
     refine reg ?_
     refine rki [] 3 0 [69, 68, 10, 9, 8, 7, 6, 3, 2] [2, 1, 0] [True] ⟨trivial, trivial⟩ ?_
     by_cases h4 : (f + 2) ≤ l - b
     ·
      refine pc (take_1 s b l (f + 2) ‹_› (by omega) ‹_›) ?_
      refine rki [] 8 4 [14, 13, 12, 10, 9, 8, 7, 6, 3, 2] [3, 2, 1, 0] [True] ⟨trivial, trivial⟩ ?_
      refine en ?_
      refine an ?_
      refine rg [(1, .t)] 2 ⟨[(75, .t), (13, .u ((s + 1) * 4294967296 + b)), (12, .p 3), (10, .fn 59 [] [.p 0, .p 1]), (9, .i (f + 2)), (8, .i 0), (7, .u 0), (6, .p 2), (3, .p 0), (2, .i n)], [(3, .cells [.i s, .i (b + (f + 2)), .i l] 27), (2, .cells z8 93), (1, .cells [.i t, .i f, .u m] 49), (0, .cells (mr W xs ys (r5 s b l p q)) 93)], 4⟩ [(0 == 0) = true] ⟨beq_iff_eq.2 (by omega), trivial⟩ ?_
      refine ct ?_
      refine rgi [] 3 [13, 10, 9, 8, 7, 6, 3, 2] [2, 1, 0] [True, True] ⟨trivial, trivial, trivial⟩ ?_
      refine xw_seq ?_
      refine reg ?_
      refine rki [] 2 0 [79, 78, 10, 9, 8, 7, 6, 3, 2] [2, 1, 0] [] trivial ?_
      refine callx (f := 59) (args := [.u ((s + 1) * 4294967296 + b), .p 0, .p 1]) (d := (some 80)) (by kernel_rfl) (xcall_of TT_ok Try.func59 rfl (by decide) (Nat.le_of_ble_eq_true (by kernel_rfl)) ?_)
      refine rgi [] 3 [6, 5, 4, 0, 1, 2] [4, 2, 1, 0] [] trivial ?_
      refine xw_seq ?_
      refine reg ?_
      refine rk [] 4 0 ⟨[(11, .agg [.i t, .i f, .u m]), (10, .u ((s + 1) * 4294967296 + b)), (9, .agg (mm W xs ys)), (6, .i 0), (5, .u 0), (4, .p 4), (0, .u ((s + 1) * 4294967296 + b)), (1, .p 0)], [(4, .cells z8 93), (2, .cells z8 93), (1, .cells [.i t, .i f, .u m] 49), (0, .cells (mr W xs ys (r5 s (b + (f + 2)) l p q)) 93)], 5⟩ [True, True] ⟨trivial, trivial, trivial⟩ ?_
      refine pc (oput_1 W xs ys ((s + 1) * 4294967296 + b) t f m ‹_› ‹_› ‹_› ‹_› ‹_› (by omega) ‹_› ‹_› ‹_› ‹_› (by omega) (by omega)) ?_
      obtain ⟨h5, h6, h7, h8, h9, h10⟩ := put_ok W xs ys ((s + 1) * 4294967296 + b) t f m ‹_› ‹_› ‹_› ‹_› (by omega) (by omega) (by omega) (by first | omega | decide) (by omega)
      refine rki [] 5 5 [6, 5, 4, 0, 1] [4, 2, 1, 0] [True] ⟨trivial, trivial⟩ ?_
      refine en ?_
      refine an ?_
      refine rgi [] 5 [6, 5, 4] [4, 2, 1, 0] [True, True] ⟨trivial, trivial, trivial⟩ ?_
      refine xw_ret ?_
      refine ⟨.tup [.agg (mr W (px xs ((s + 1) * 4294967296 + b) t f m) (py ys ((s + 1) * 4294967296 + b) t f m) (r5 s (b + (f + 2)) l p q)), .u ((s + 1) * 4294967296 + b), .i 0], by kernel_rfl, ?_⟩
      refine rk [] 6 3 ⟨[(8, .i 0), (7, .u ((s + 1) * 4294967296 + b)), (10, .fn 59 [] [.p 0, .p 1]), (9, .i (f + 2)), (6, .p 2), (3, .p 0), (2, .i n)], [(2, .cells (mr W (px xs ((s + 1) * 4294967296 + b) t f m) (py ys ((s + 1) * 4294967296 + b) t f m) (r5 s (b + (f + 2)) l p q)) 93), (1, .cells [.i t, .i f, .u m] 49), (0, .cells (mr W (px xs ((s + 1) * 4294967296 + b) t f m) (py ys ((s + 1) * 4294967296 + b) t f m) (r5 s (b + (f + 2)) l p q)) 93)], 5⟩ [True] ⟨trivial, trivial⟩ ?_
      refine en ?_
      refine an ?_
      refine xw_ret ?_
      refine ib_ret ?_
      refine an_ret ?_
      refine ib_ret ?_
      refine an_ret ?_
      refine juu_ret ?_
      exact bs (.tup [.agg (mr W (px xs ((s + 1) * 4294967296 + b) t f m) (py ys ((s + 1) * 4294967296 + b) t f m) (r5 s (b + (f + 2)) l p q)), .u ((s + 1) * 4294967296 + b), .i 0]) (Or.inr <| Or.inr <| Or.inl <| ⟨(by first | rfl | omega), (by omega), (by omega), (by omega), (by omega), rfl⟩)
     ·
      refine pc (take_2 s b l (f + 2) ‹_› (by omega) (by omega)) ?_
      refine rki [] 8 4 [14, 13, 12, 10, 9, 8, 7, 6, 3, 2] [3, 2, 1, 0] [True] ⟨trivial, trivial⟩ ?_
      refine en ?_
      refine an ?_
      refine rg [(1, .f)] 2 ⟨[(75, .f), (13, .u 0), (12, .p 3), (10, .fn 59 [] [.p 0, .p 1]), (9, .i (f + 2)), (8, .i 0), (7, .u 0), (6, .p 2), (3, .p 0), (2, .i n)], [(3, .cells [.i s, .i b, .i l] 27), (2, .cells z8 93), (1, .cells [.i t, .i f, .u m] 49), (0, .cells (mr W xs ys (r5 s b l p q)) 93)], 4⟩ [(4 == 0) = false] ⟨beq_eq_false_iff_ne.2 (by omega), trivial⟩ ?_
      refine cf ?_
      refine xw_skip ?_
      refine ib ?_
      refine an ?_
      refine xw_seq ?_
      refine xw_seq ?_
      refine rgi [(1, .i (2 * (f + 2))), (3, .f)] 4 [87, 10, 9, 8, 7, 6, 3, 2] [2, 1, 0] [IntKind.i64.wrap (2 * (f + 2)) = (2 * (f + 2)), (decide ((2 * (f + 2)) ≤ n)) = false] ⟨i64_eq (by omega) (by omega), decide_eq_false (by omega), trivial⟩ ?_
      refine cf ?_
      refine xw_skip ?_
      refine an ?_
      refine rgi [] 4 [8, 7, 10, 9, 6, 3, 2] [2, 1, 0] [True, True] ⟨trivial, trivial, trivial⟩ ?_
      refine xw_ret ?_
      refine an_ret ?_
      refine ib_ret ?_
      refine an_ret ?_
      refine juu_ret ?_
      exact bs (.tup [.agg (mr W xs ys (r5 s b l p q)), .u 0, .i 4]) (Or.inr <| Or.inr <| Or.inr <| Or.inl <| ⟨(by first | rfl | omega), (by omega), (by omega), (by omega), (by omega), rfl⟩)
    ·
     replace h3 : ¬ (n < (2 * (f + 2))) := of_decide_eq_false h3
     refine xw_skip ?_
     refine an ?_
     refine xw_seq ?_
     refine reg ?_
     refine rki [] 2 0 [42, 10, 9, 8, 7, 6, 3, 2] [2, 1, 0] [True] ⟨trivial, trivial⟩ ?_
     refine pc (left_1 s b l ‹_›) ?_
     refine rki [(4, .bool (decide ((l - b) < (f + 2))))] 3 3 [40, 10, 9, 8, 7, 6, 3, 2] [2, 1, 0] [sm (decide ((l - b) < (f + 2)))] ⟨rfl, trivial⟩ ?_
     refine en ?_
     refine an ?_
     refine xw_cond (b := (decide ((l - b) < (f + 2)))) (by kernel_rfl) (fun h4 => ?_) (fun h4 => ?_)
     ·
      replace h4 : (l - b) < (f + 2) := of_decide_eq_true h4
      refine xw_exit ?_
      refine an_exit ?_
      refine ib_exit (by kernel_rfl) ?_
      refine an_exit ?_
      refine ib_exit (by kernel_rfl) ?_
      refine an_exit ?_
      refine ib_same ?_
      refine an ?_
      refine xw_seq ?_
      refine xw_seq ?_
      refine rg [(1, .i (2 * (f + 2))), (3, .t)] 4 ⟨[(87, .t), (10, .fn 59 [] [.p 0, .p 1]), (9, .i (f + 2)), (8, .i 0), (7, .u 0), (6, .p 2), (3, .p 0), (2, .i n)], [(2, .cells z8 93), (1, .cells [.i t, .i f, .u m] 49), (0, .cells (mr W xs ys (r5 s b l p q)) 93)], 3⟩ [IntKind.i64.wrap (2 * (f + 2)) = (2 * (f + 2)), (decide ((2 * (f + 2)) ≤ n)) = true] ⟨i64_eq (by omega) (by omega), decide_eq_true (by omega), trivial⟩ ?_
      refine ct ?_
      refine reg ?_
      refine rki [] 1 0 [88, 10, 9, 8, 7, 6, 3, 2] [2, 1, 0] [True] ⟨trivial, trivial⟩ ?_
      refine pc (retire W xs ys s b l p q ‹_› ‹_› ‹_› ‹_› ‹_› ‹_› ‹_› ‹_›) ?_
      obtain ⟨h5, h6, h7, h8⟩ := rt_ok W xs ys s p q ‹_› ‹_› ‹_› ‹_› (by omega) (by omega)
      refine rki [] 1 2 [10, 9, 8, 7, 6, 3, 2] [2, 1, 0] [True] ⟨trivial, trivial⟩ ?_
      refine en ?_
      refine an ?_
      refine rgi [] 4 [8, 7, 10, 9, 6, 3, 2] [2, 1, 0] [True, True] ⟨trivial, trivial, trivial⟩ ?_
      refine xw_ret ?_
      refine an_ret ?_
      refine ib_ret ?_
      refine an_ret ?_
      refine juu_ret ?_
      exact bs (.tup [.agg (mr W (rtx xs s p q) (rty ys s p q) (r5 s b l 0 0)), .u 0, .i 4]) (Or.inr <| Or.inr <| Or.inr <| Or.inr <| Or.inl <| ⟨(by first | rfl | omega), (by omega), (by omega), (by omega), (by omega), rfl⟩)
     ·
      replace h4 : ¬ ((l - b) < (f + 2)) := of_decide_eq_false h4
      refine xw_skip ?_
      refine an ?_
      refine xw_exit ?_
      refine ib_exit (by kernel_rfl) ?_
      refine an_exit ?_
      refine ib_exit (by kernel_rfl) ?_
      refine an_exit ?_
      refine ib_exit (by kernel_rfl) ?_
      refine an_exit ?_
      refine ib_same ?_
      refine an ?_
      refine xw_seq ?_
      refine reg ?_
      refine rk [] 1 0 ⟨[(91, .agg (mr W xs ys (r5 s b l p q))), (10, .fn 59 [] [.p 0, .p 1]), (9, .i (f + 2)), (8, .i 0), (7, .u 0), (6, .p 2), (3, .p 0), (2, .i n)], [(2, .cells z8 93), (1, .cells [.i t, .i f, .u m] 49), (0, .cells (mr W xs ys (r5 s b l p q)) 93)], 3⟩ [True] ⟨trivial, trivial⟩ ?_
      refine pc (retire W xs ys s b l p q ‹_› ‹_› ‹_› ‹_› ‹_› ‹_› ‹_› ‹_›) ?_
      obtain ⟨h5, h6, h7, h8⟩ := rt_ok W xs ys s p q ‹_› ‹_› ‹_› ‹_› (by omega) (by omega)
      refine rki [] 1 2 [10, 9, 8, 7, 6, 3, 2] [2, 1, 0] [True] ⟨trivial, trivial⟩ ?_
      refine en ?_
      refine an ?_
      refine xw_seq ?_
      refine reg ?_
      refine rki [] 3 0 [96, 95, 10, 9, 8, 7, 6, 3, 2] [2, 1, 0] [True] ⟨trivial, trivial⟩ ?_
      by_cases h9 : n ≤ l - b
      ·
       refine pc (most_1 s b l n ‹_› (by omega) ‹_›) ?_
       refine rki [] 8 4 [17, 15, 10, 9, 8, 7, 6, 3, 2] [3, 2, 1, 0] [True] ⟨trivial, trivial⟩ ?_
       refine en ?_
       refine an ?_
       refine rg [(7, .i (b + n))] 11 ⟨[(15, .p 3), (10, .fn 59 [] [.p 0, .p 1]), (9, .i (f + 2)), (8, .i 0), (7, .u 0), (6, .p 2), (3, .p 0), (2, .i n)], [(3, .cells [.i s, .i (b + n), .i l] 27), (2, .cells z8 93), (1, .cells [.i t, .i f, .u m] 49), (0, .cells (mr W (rtx xs s p q) (rty ys s p q) (r5 s b l b (b + n))) 93)], 4⟩ [True, True, IntKind.i64.wrap (b + n) = (b + n), True] ⟨trivial, trivial, i64_eq (by omega) (by omega), trivial, trivial⟩ ?_
       refine rgi [] 3 [10, 9, 8, 7, 6, 3, 2] [2, 1, 0] [True, True] ⟨trivial, trivial, trivial⟩ ?_
       refine xw_goto ?_
       refine juu ?_
       refine uj_step ?_
       refine xw_seq ?_
       refine xw_skip ?_
       refine an ?_
       refine xw_seq ?_
       refine xw_block ?_
       refine xw_seq ?_
       refine xw_block ?_
       refine xw_seq ?_
       refine xw_block ?_
       refine xw_seq ?_
       refine xw_block ?_
       refine xw_seq ?_
       refine xw_seq ?_
       refine xw_seq ?_
       refine reg ?_
       refine rki [] 2 0 [32, 31, 10, 9, 8, 7, 6, 3, 2] [2, 1, 0] [True] ⟨trivial, trivial⟩ ?_
       refine pc (gap W (rtx xs s p q) (rty ys s p q) s (b + n) l b (b + n) (by omega)) ?_
       refine rki [(3, .t)] 2 3 [30, 10, 9, 8, 7, 6, 3, 2] [2, 1, 0] [(decide ((f + 2) ≤ ((b + n) - b))) = true] ⟨decide_eq_true (by omega), trivial⟩ ?_
       refine en ?_
       refine an ?_
       refine ct ?_
       refine xw_exit ?_
       refine an_exit ?_
       refine an_exit ?_
       refine ib_same ?_
       refine an ?_
       refine xw_seq ?_
       refine xw_seq ?_
       refine reg ?_
       refine rk [] 6 0 ⟨[(51, .i b), (48, .i s), (10, .fn 59 [] [.p 0, .p 1]), (9, .i (f + 2)), (8, .i 0), (7, .u 0), (6, .p 2), (3, .p 0), (2, .i n)], [(2, .cells z8 93), (1, .cells [.i t, .i f, .u m] 49), (0, .cells (mr W (rtx xs s p q) (rty ys s p q) (r5 s (b + n) l b (b + n))) 93)], 4⟩ [True, True] ⟨trivial, trivial, trivial⟩ ?_
       refine pc (addr_1 s b (by omega)) ?_
       refine rki [] 1 7 [11, 10, 9, 8, 7, 6, 3, 2] [2, 1, 0] [] trivial ?_
       refine en ?_
       refine an ?_
       refine rgi [(4, .i (b + (f + 2)))] 8 [11, 10, 9, 8, 7, 6, 3, 2] [2, 1, 0] [True, IntKind.i64.wrap (b + (f + 2)) = (b + (f + 2)), True] ⟨trivial, i64_eq (by omega) (by omega), trivial, trivial⟩ ?_
       refine xw_seq ?_
       refine reg ?_
       refine rki [] 2 0 [61, 60, 10, 9, 8, 7, 6, 3, 2] [2, 1, 0] [] trivial ?_
       refine callx (f := 59) (args := [.u ((s + 1) * 4294967296 + b), .p 0, .p 1]) (d := (some 62)) (by kernel_rfl) (xcall_of TT_ok Try.func59 rfl (by decide) (Nat.le_of_ble_eq_true (by kernel_rfl)) ?_)
       refine rg [] 3 ⟨[(6, .i 0), (5, .u 0), (4, .p 4), (0, .u ((s + 1) * 4294967296 + b)), (1, .p 0), (2, .p 1)], [(4, .cells z8 93), (2, .cells z8 93), (1, .cells [.i t, .i f, .u m] 49), (0, .cells (mr W (rtx xs s p q) (rty ys s p q) (r5 s (b + n) l (b + (f + 2)) (b + n))) 93)], 5⟩ [] trivial ?_
       refine xw_seq ?_
       refine reg ?_
       refine rki [] 4 0 [11, 10, 9, 6, 5, 4, 0, 1] [4, 2, 1, 0] [True, True] ⟨trivial, trivial, trivial⟩ ?_
       refine pc (oput_1 W (rtx xs s p q) (rty ys s p q) ((s + 1) * 4294967296 + b) t f m ‹_› ‹_› ‹_› ‹_› ‹_› (by omega) ‹_› ‹_› ‹_› ‹_› (by omega) (by omega)) ?_
       obtain ⟨h10, h11, h12, h13, h14, h15⟩ := put_ok W (rtx xs s p q) (rty ys s p q) ((s + 1) * 4294967296 + b) t f m ‹_› ‹_› ‹_› ‹_› (by omega) (by omega) (by omega) (by first | omega | decide) (by omega)
       refine rki [] 5 5 [6, 5, 4, 0, 1] [4, 2, 1, 0] [True] ⟨trivial, trivial⟩ ?_
       refine en ?_
       refine an ?_
       refine rgi [] 5 [6, 5, 4] [4, 2, 1, 0] [True, True] ⟨trivial, trivial, trivial⟩ ?_
       refine xw_ret ?_
       refine ⟨.tup [.agg (mr W (px (rtx xs s p q) ((s + 1) * 4294967296 + b) t f m) (py (rty ys s p q) ((s + 1) * 4294967296 + b) t f m) (r5 s (b + n) l (b + (f + 2)) (b + n))), .u ((s + 1) * 4294967296 + b), .i 0], by kernel_rfl, ?_⟩
       show XOi _ _ _ _ _ _ _ ⟨[(62, .tup [.agg (mr W (px (rtx xs s p q) ((s + 1) * 4294967296 + b) t f m) (py (rty ys s p q) ((s + 1) * 4294967296 + b) t f m) (r5 s (b + n) l (b + (f + 2)) (b + n))), .u ((s + 1) * 4294967296 + b), .i 0]), (61, .u ((s + 1) * 4294967296 + b)), (60, .fn 59 [] [.p 0, .p 1]), (10, .fn 59 [] [.p 0, .p 1]), (9, .i (f + 2)), (8, .i 0), (7, .u 0), (6, .p 2), (3, .p 0), (2, .i n)], [(4, .cells (mr W (px (rtx xs s p q) ((s + 1) * 4294967296 + b) t f m) (py (rty ys s p q) ((s + 1) * 4294967296 + b) t f m) (r5 s (b + n) l (b + (f + 2)) (b + n))) 93), (2, .cells z8 93), (1, .cells [.i t, .i f, .u m] 49), (0, .cells (mr W (px (rtx xs s p q) ((s + 1) * 4294967296 + b) t f m) (py (rty ys s p q) ((s + 1) * 4294967296 + b) t f m) (r5 s (b + n) l (b + (f + 2)) (b + n))) 93)], 5⟩
       refine rki [] 6 3 [8, 7, 10, 9, 6, 3, 2] [2, 1, 0] [True] ⟨trivial, trivial⟩ ?_
       refine en ?_
       refine an ?_
       refine xw_ret ?_
       refine an_ret ?_
       refine ib_ret ?_
       refine an_ret ?_
       refine ib_ret ?_
       refine an_ret ?_
       refine ib_ret ?_
       refine an_ret ?_
       refine juu_ret ?_
       exact br (.tup [.agg (mr W (px (rtx xs s p q) ((s + 1) * 4294967296 + b) t f m) (py (rty ys s p q) ((s + 1) * 4294967296 + b) t f m) (r5 s (b + n) l (b + (f + 2)) (b + n))), .u ((s + 1) * 4294967296 + b), .i 0]) (.tup [.agg (mr W (px (rtx xs s p q) ((s + 1) * 4294967296 + b) t f m) (py (rty ys s p q) ((s + 1) * 4294967296 + b) t f m) (r5 s (b + (min n (l - b))) l (b + (f + 2)) (b + (min n (l - b))))), .u ((s + 1) * 4294967296 + b), .i 0]) (wkd [(W : Int) = W, (false = true → false = true), (m64 (px (rtx xs s p q) ((s + 1) * 4294967296 + b) t f m)) = (m64 (px (rtx xs s p q) ((s + 1) * 4294967296 + b) t f m)), (false = true → false = true), (m64 (py (rty ys s p q) ((s + 1) * 4294967296 + b) t f m)) = (m64 (py (rty ys s p q) ((s + 1) * 4294967296 + b) t f m)), (s : Int) = s, ((b + n) : Int) = (b + (min n (l - b))), (l : Int) = l, ((b + (f + 2)) : Int) = (b + (f + 2)), ((b + n) : Int) = (b + (min n (l - b))), (((s + 1) * 4294967296 + b) : Int) = ((s + 1) * 4294967296 + b), (0 : Int) = 0] (by kernel_rfl) ⟨rfl, id, rfl, id, rfl, rfl, (by omega), rfl, rfl, (by omega), rfl, rfl, trivial⟩) (Or.inr <| Or.inr <| Or.inr <| Or.inr <| Or.inr <| ⟨(by first | rfl | omega), (by omega), (by omega), (by omega), (by omega), rfl⟩)
      ·
       refine pc (most_2 s b l n ‹_› (by omega) (by omega)) ?_
       refine rki [] 8 4 [17, 15, 10, 9, 8, 7, 6, 3, 2] [3, 2, 1, 0] [True] ⟨trivial, trivial⟩ ?_
       refine en ?_
       refine an ?_
       refine rg [(7, .i (b + (l - b)))] 11 ⟨[(15, .p 3), (10, .fn 59 [] [.p 0, .p 1]), (9, .i (f + 2)), (8, .i 0), (7, .u 0), (6, .p 2), (3, .p 0), (2, .i n)], [(3, .cells [.i s, .i l, .i l] 27), (2, .cells z8 93), (1, .cells [.i t, .i f, .u m] 49), (0, .cells (mr W (rtx xs s p q) (rty ys s p q) (r5 s b l b (b + (l - b)))) 93)], 4⟩ [True, True, IntKind.i64.wrap (b + (l - b)) = (b + (l - b)), True] ⟨trivial, trivial, i64_eq (by omega) (by omega), trivial, trivial⟩ ?_
       refine rgi [] 3 [10, 9, 8, 7, 6, 3, 2] [2, 1, 0] [True, True] ⟨trivial, trivial, trivial⟩ ?_
       refine xw_goto ?_
       refine juu ?_
       refine uj_step ?_
       refine xw_seq ?_
       refine xw_skip ?_
       refine an ?_
       refine xw_seq ?_
       refine xw_block ?_
       refine xw_seq ?_
       refine xw_block ?_
       refine xw_seq ?_
       refine xw_block ?_
       refine xw_seq ?_
       refine xw_block ?_
       refine xw_seq ?_
       refine xw_seq ?_
       refine xw_seq ?_
       refine reg ?_
       refine rki [] 2 0 [32, 31, 10, 9, 8, 7, 6, 3, 2] [2, 1, 0] [True] ⟨trivial, trivial⟩ ?_
       refine pc (gap W (rtx xs s p q) (rty ys s p q) s l l b (b + (l - b)) (by omega)) ?_
       refine rki [(3, .t)] 2 3 [30, 10, 9, 8, 7, 6, 3, 2] [2, 1, 0] [(decide ((f + 2) ≤ ((b + (l - b)) - b))) = true] ⟨decide_eq_true (by omega), trivial⟩ ?_
       refine en ?_
       refine an ?_
       refine ct ?_
       refine xw_exit ?_
       refine an_exit ?_
       refine an_exit ?_
       refine ib_same ?_
       refine an ?_
       refine xw_seq ?_
       refine xw_seq ?_
       refine reg ?_
       refine rk [] 6 0 ⟨[(51, .i b), (48, .i s), (10, .fn 59 [] [.p 0, .p 1]), (9, .i (f + 2)), (8, .i 0), (7, .u 0), (6, .p 2), (3, .p 0), (2, .i n)], [(2, .cells z8 93), (1, .cells [.i t, .i f, .u m] 49), (0, .cells (mr W (rtx xs s p q) (rty ys s p q) (r5 s l l b (b + (l - b)))) 93)], 4⟩ [True, True] ⟨trivial, trivial, trivial⟩ ?_
       refine pc (addr_1 s b (by omega)) ?_
       refine rki [] 1 7 [11, 10, 9, 8, 7, 6, 3, 2] [2, 1, 0] [] trivial ?_
       refine en ?_
       refine an ?_
       refine rgi [(4, .i (b + (f + 2)))] 8 [11, 10, 9, 8, 7, 6, 3, 2] [2, 1, 0] [True, IntKind.i64.wrap (b + (f + 2)) = (b + (f + 2)), True] ⟨trivial, i64_eq (by omega) (by omega), trivial, trivial⟩ ?_
       refine xw_seq ?_
       refine reg ?_
       refine rki [] 2 0 [61, 60, 10, 9, 8, 7, 6, 3, 2] [2, 1, 0] [] trivial ?_
       refine callx (f := 59) (args := [.u ((s + 1) * 4294967296 + b), .p 0, .p 1]) (d := (some 62)) (by kernel_rfl) (xcall_of TT_ok Try.func59 rfl (by decide) (Nat.le_of_ble_eq_true (by kernel_rfl)) ?_)
       refine rg [] 3 ⟨[(6, .i 0), (5, .u 0), (4, .p 4), (0, .u ((s + 1) * 4294967296 + b)), (1, .p 0), (2, .p 1)], [(4, .cells z8 93), (2, .cells z8 93), (1, .cells [.i t, .i f, .u m] 49), (0, .cells (mr W (rtx xs s p q) (rty ys s p q) (r5 s l l (b + (f + 2)) (b + (l - b)))) 93)], 5⟩ [] trivial ?_
       refine xw_seq ?_
       refine reg ?_
       refine rki [] 4 0 [11, 10, 9, 6, 5, 4, 0, 1] [4, 2, 1, 0] [True, True] ⟨trivial, trivial, trivial⟩ ?_
       refine pc (oput_1 W (rtx xs s p q) (rty ys s p q) ((s + 1) * 4294967296 + b) t f m ‹_› ‹_› ‹_› ‹_› ‹_› (by omega) ‹_› ‹_› ‹_› ‹_› (by omega) (by omega)) ?_
       obtain ⟨h10, h11, h12, h13, h14, h15⟩ := put_ok W (rtx xs s p q) (rty ys s p q) ((s + 1) * 4294967296 + b) t f m ‹_› ‹_› ‹_› ‹_› (by omega) (by omega) (by omega) (by first | omega | decide) (by omega)
       refine rki [] 5 5 [6, 5, 4, 0, 1] [4, 2, 1, 0] [True] ⟨trivial, trivial⟩ ?_
       refine en ?_
       refine an ?_
       refine rgi [] 5 [6, 5, 4] [4, 2, 1, 0] [True, True] ⟨trivial, trivial, trivial⟩ ?_
       refine xw_ret ?_
       refine ⟨.tup [.agg (mr W (px (rtx xs s p q) ((s + 1) * 4294967296 + b) t f m) (py (rty ys s p q) ((s + 1) * 4294967296 + b) t f m) (r5 s l l (b + (f + 2)) (b + (l - b)))), .u ((s + 1) * 4294967296 + b), .i 0], by kernel_rfl, ?_⟩
       show XOi _ _ _ _ _ _ _ ⟨[(62, .tup [.agg (mr W (px (rtx xs s p q) ((s + 1) * 4294967296 + b) t f m) (py (rty ys s p q) ((s + 1) * 4294967296 + b) t f m) (r5 s l l (b + (f + 2)) (b + (l - b)))), .u ((s + 1) * 4294967296 + b), .i 0]), (61, .u ((s + 1) * 4294967296 + b)), (60, .fn 59 [] [.p 0, .p 1]), (10, .fn 59 [] [.p 0, .p 1]), (9, .i (f + 2)), (8, .i 0), (7, .u 0), (6, .p 2), (3, .p 0), (2, .i n)], [(4, .cells (mr W (px (rtx xs s p q) ((s + 1) * 4294967296 + b) t f m) (py (rty ys s p q) ((s + 1) * 4294967296 + b) t f m) (r5 s l l (b + (f + 2)) (b + (l - b)))) 93), (2, .cells z8 93), (1, .cells [.i t, .i f, .u m] 49), (0, .cells (mr W (px (rtx xs s p q) ((s + 1) * 4294967296 + b) t f m) (py (rty ys s p q) ((s + 1) * 4294967296 + b) t f m) (r5 s l l (b + (f + 2)) (b + (l - b)))) 93)], 5⟩
       refine rki [] 6 3 [8, 7, 10, 9, 6, 3, 2] [2, 1, 0] [True] ⟨trivial, trivial⟩ ?_
       refine en ?_
       refine an ?_
       refine xw_ret ?_
       refine an_ret ?_
       refine ib_ret ?_
       refine an_ret ?_
       refine ib_ret ?_
       refine an_ret ?_
       refine ib_ret ?_
       refine an_ret ?_
       refine juu_ret ?_
       exact br (.tup [.agg (mr W (px (rtx xs s p q) ((s + 1) * 4294967296 + b) t f m) (py (rty ys s p q) ((s + 1) * 4294967296 + b) t f m) (r5 s l l (b + (f + 2)) (b + (l - b)))), .u ((s + 1) * 4294967296 + b), .i 0]) (.tup [.agg (mr W (px (rtx xs s p q) ((s + 1) * 4294967296 + b) t f m) (py (rty ys s p q) ((s + 1) * 4294967296 + b) t f m) (r5 s (b + (min n (l - b))) l (b + (f + 2)) (b + (min n (l - b))))), .u ((s + 1) * 4294967296 + b), .i 0]) (wkd [(W : Int) = W, (false = true → false = true), (m64 (px (rtx xs s p q) ((s + 1) * 4294967296 + b) t f m)) = (m64 (px (rtx xs s p q) ((s + 1) * 4294967296 + b) t f m)), (false = true → false = true), (m64 (py (rty ys s p q) ((s + 1) * 4294967296 + b) t f m)) = (m64 (py (rty ys s p q) ((s + 1) * 4294967296 + b) t f m)), (s : Int) = s, (l : Int) = (b + (min n (l - b))), (l : Int) = l, ((b + (f + 2)) : Int) = (b + (f + 2)), ((b + (l - b)) : Int) = (b + (min n (l - b))), (((s + 1) * 4294967296 + b) : Int) = ((s + 1) * 4294967296 + b), (0 : Int) = 0] (by kernel_rfl) ⟨rfl, id, rfl, id, rfl, rfl, (by omega), rfl, rfl, (by omega), rfl, rfl, trivial⟩) (Or.inr <| Or.inr <| Or.inr <| Or.inr <| Or.inr <| ⟨(by first | rfl | omega), (by omega), (by omega), (by omega), (by omega), rfl⟩)
 ·
  refine pc (hright_2 t f m ‹_› ‹_› ‹_› ‹_›) ?_
  have h1 : (headErr t f m) ≠ 0 := headErr_ne (by omega) (by omega)
  refine rki [(2, .t)] 6 2 [25, 8, 7, 6, 4, 3, 2] [2, 1, 0] [((headErr t f m) != 0) = true, True] ⟨bne_iff_ne.2 (by omega), trivial, trivial⟩ ?_
  refine en ?_
  refine an ?_
  refine ct ?_
  refine rg [] 4 ⟨[(8, .i 1), (7, .u 0), (6, .p 2), (4, .p 1), (3, .p 0), (2, .i n)], [(2, .cells (mr W xs ys (r5 s b l p q)) 93), (1, .cells [.i t, .i f, .u m] 49), (0, .cells (mr W xs ys (r5 s b l p q)) 93)], 3⟩ [True, True] ⟨trivial, trivial, trivial⟩ ?_
  refine xw_ret ?_
  refine an_ret ?_
  refine juu_ret ?_
  exact bs (.tup [.agg (mr W xs ys (r5 s b l p q)), .u 0, .i 1]) (Or.inl <| ⟨(by first | rfl | omega), rfl⟩)

theorem bmake_2 (W : Int) (xs ys : List Int) (s b l p q n t f m : Int) (hp0 : 16 ≤ W ∧ W ≤ 4096) (hp1 : (xs.length : Int) = W) (hp2 : (ys.length : Int) = W) (hp3 : U64s xs) (hp4 : U64s ys) (hp5 : (s = 0 ∨ s = 1) ∧ 0 ≤ b ∧ b ≤ l ∧ l ≤ 4096) (hp6 : l = W) (hp7 : 0 ≤ p ∧ p ≤ q ∧ q ≤ b) (hp8 : -9223372036854775808 ≤ t ∧ t ≤ 9223372036854775807) (hp9 : -9223372036854775808 ≤ f ∧ f ≤ 9223372036854775807) (hp10 : 0 ≤ m ∧ m ≤ 18446744073709551615) (hp11 : -9223372036854775808 ≤ n ∧ n ≤ 9223372036854775807) (hp12 : (t = 255 ∧ 0 ≤ f ∧ f ≤ 65535 ∧ m = 0) ∨ (1 ≤ t ∧ t ≤ 200 ∧ 0 ≤ f ∧ f ≤ 16 ∧ m < 2 ^ (Int.toNat f) ∧ m < 65536)) (hp13 : t ≠ 255) (hp14 : f + 2 ≤ q - p) : Pub Try.prog 48 [.agg (mr W xs ys (r5 s b l p q)), .agg [.i t, .i f, .u m], .i n] (fun rv => rv = .tup [.agg (mr W (px xs ((s + 1) * 4294967296 + p) t f m) (py ys ((s + 1) * 4294967296 + p) t f m) (r5 s b l (p + (f + 2)) q)), .u ((s + 1) * 4294967296 + p), .i 0]) := by
  refine (bmake W xs ys s b l p q n t f m hp0 hp1 hp2 hp3 hp4 hp5 hp6 hp7 hp8 hp9 hp10 hp11).mono ?_
  rintro _ (⟨g0, rfl⟩ | ⟨g0, g1, g2, rfl⟩ | ⟨g0, g1, g2, g3, g4, rfl⟩ | ⟨g0, g1, g2, g3, g4, rfl⟩ | ⟨g0, g1, g2, g3, g4, rfl⟩ | ⟨g0, g1, g2, g3, g4, rfl⟩)
  all_goals first | rfl | (exfalso; first | omega | grind)

theorem bmake_3 (W : Int) (xs ys : List Int) (s b l p q n t f m : Int) (hp0 : 16 ≤ W ∧ W ≤ 4096) (hp1 : (xs.length : Int) = W) (hp2 : (ys.length : Int) = W) (hp3 : U64s xs) (hp4 : U64s ys) (hp5 : (s = 0 ∨ s = 1) ∧ 0 ≤ b ∧ b ≤ l ∧ l ≤ 4096) (hp6 : l = W) (hp7 : 0 ≤ p ∧ p ≤ q ∧ q ≤ b) (hp8 : -9223372036854775808 ≤ t ∧ t ≤ 9223372036854775807) (hp9 : -9223372036854775808 ≤ f ∧ f ≤ 9223372036854775807) (hp10 : 0 ≤ m ∧ m ≤ 18446744073709551615) (hp11 : -9223372036854775808 ≤ n ∧ n ≤ 9223372036854775807) (hp12 : (t = 255 ∧ 0 ≤ f ∧ f ≤ 65535 ∧ m = 0) ∨ (1 ≤ t ∧ t ≤ 200 ∧ 0 ≤ f ∧ f ≤ 16 ∧ m < 2 ^ (Int.toNat f) ∧ m < 65536)) (hp13 : t ≠ 255) (hp14 : q - p < f + 2) (hp15 : n < 2 * (f + 2)) (hp16 : f + 2 ≤ l - b) : Pub Try.prog 48 [.agg (mr W xs ys (r5 s b l p q)), .agg [.i t, .i f, .u m], .i n] (fun rv => rv = .tup [.agg (mr W (px xs ((s + 1) * 4294967296 + b) t f m) (py ys ((s + 1) * 4294967296 + b) t f m) (r5 s (b + (f + 2)) l p q)), .u ((s + 1) * 4294967296 + b), .i 0]) := by
  refine (bmake W xs ys s b l p q n t f m hp0 hp1 hp2 hp3 hp4 hp5 hp6 hp7 hp8 hp9 hp10 hp11).mono ?_
  rintro _ (⟨g0, rfl⟩ | ⟨g0, g1, g2, rfl⟩ | ⟨g0, g1, g2, g3, g4, rfl⟩ | ⟨g0, g1, g2, g3, g4, rfl⟩ | ⟨g0, g1, g2, g3, g4, rfl⟩ | ⟨g0, g1, g2, g3, g4, rfl⟩)
  all_goals first | rfl | (exfalso; first | omega | grind)

theorem bmake_4 (W : Int) (xs ys : List Int) (s b l p q n t f m : Int) (hp0 : 16 ≤ W ∧ W ≤ 4096) (hp1 : (xs.length : Int) = W) (hp2 : (ys.length : Int) = W) (hp3 : U64s xs) (hp4 : U64s ys) (hp5 : (s = 0 ∨ s = 1) ∧ 0 ≤ b ∧ b ≤ l ∧ l ≤ 4096) (hp6 : l = W) (hp7 : 0 ≤ p ∧ p ≤ q ∧ q ≤ b) (hp8 : -9223372036854775808 ≤ t ∧ t ≤ 9223372036854775807) (hp9 : -9223372036854775808 ≤ f ∧ f ≤ 9223372036854775807) (hp10 : 0 ≤ m ∧ m ≤ 18446744073709551615) (hp11 : -9223372036854775808 ≤ n ∧ n ≤ 9223372036854775807) (hp12 : (t = 255 ∧ 0 ≤ f ∧ f ≤ 65535 ∧ m = 0) ∨ (1 ≤ t ∧ t ≤ 200 ∧ 0 ≤ f ∧ f ≤ 16 ∧ m < 2 ^ (Int.toNat f) ∧ m < 65536)) (hp13 : t ≠ 255) (hp14 : q - p < f + 2) (hp15 : n < 2 * (f + 2)) (hp16 : l - b < f + 2) : Pub Try.prog 48 [.agg (mr W xs ys (r5 s b l p q)), .agg [.i t, .i f, .u m], .i n] (fun rv => rv = .tup [.agg (mr W xs ys (r5 s b l p q)), .u 0, .i 4]) := by
  refine (bmake W xs ys s b l p q n t f m hp0 hp1 hp2 hp3 hp4 hp5 hp6 hp7 hp8 hp9 hp10 hp11).mono ?_
  rintro _ (⟨g0, rfl⟩ | ⟨g0, g1, g2, rfl⟩ | ⟨g0, g1, g2, g3, g4, rfl⟩ | ⟨g0, g1, g2, g3, g4, rfl⟩ | ⟨g0, g1, g2, g3, g4, rfl⟩ | ⟨g0, g1, g2, g3, g4, rfl⟩)
  all_goals first | rfl | (exfalso; first | omega | grind)

theorem bmake_5 (W : Int) (xs ys : List Int) (s b l p q n t f m : Int) (hp0 : 16 ≤ W ∧ W ≤ 4096) (hp1 : (xs.length : Int) = W) (hp2 : (ys.length : Int) = W) (hp3 : U64s xs) (hp4 : U64s ys) (hp5 : (s = 0 ∨ s = 1) ∧ 0 ≤ b ∧ b ≤ l ∧ l ≤ 4096) (hp6 : l = W) (hp7 : 0 ≤ p ∧ p ≤ q ∧ q ≤ b) (hp8 : -9223372036854775808 ≤ t ∧ t ≤ 9223372036854775807) (hp9 : -9223372036854775808 ≤ f ∧ f ≤ 9223372036854775807) (hp10 : 0 ≤ m ∧ m ≤ 18446744073709551615) (hp11 : -9223372036854775808 ≤ n ∧ n ≤ 9223372036854775807) (hp12 : (t = 255 ∧ 0 ≤ f ∧ f ≤ 65535 ∧ m = 0) ∨ (1 ≤ t ∧ t ≤ 200 ∧ 0 ≤ f ∧ f ≤ 16 ∧ m < 2 ^ (Int.toNat f) ∧ m < 65536)) (hp13 : t ≠ 255) (hp14 : q - p < f + 2) (hp15 : 2 * (f + 2) ≤ n) (hp16 : l - b < f + 2) : Pub Try.prog 48 [.agg (mr W xs ys (r5 s b l p q)), .agg [.i t, .i f, .u m], .i n] (fun rv => rv = .tup [.agg (mr W (rtx xs s p q) (rty ys s p q) (r5 s b l 0 0)), .u 0, .i 4]) := by
  refine (bmake W xs ys s b l p q n t f m hp0 hp1 hp2 hp3 hp4 hp5 hp6 hp7 hp8 hp9 hp10 hp11).mono ?_
  rintro _ (⟨g0, rfl⟩ | ⟨g0, g1, g2, rfl⟩ | ⟨g0, g1, g2, g3, g4, rfl⟩ | ⟨g0, g1, g2, g3, g4, rfl⟩ | ⟨g0, g1, g2, g3, g4, rfl⟩ | ⟨g0, g1, g2, g3, g4, rfl⟩)
  all_goals first | rfl | (exfalso; first | omega | grind)

theorem bmake_6 (W : Int) (xs ys : List Int) (s b l p q n t f m : Int) (hp0 : 16 ≤ W ∧ W ≤ 4096) (hp1 : (xs.length : Int) = W) (hp2 : (ys.length : Int) = W) (hp3 : U64s xs) (hp4 : U64s ys) (hp5 : (s = 0 ∨ s = 1) ∧ 0 ≤ b ∧ b ≤ l ∧ l ≤ 4096) (hp6 : l = W) (hp7 : 0 ≤ p ∧ p ≤ q ∧ q ≤ b) (hp8 : -9223372036854775808 ≤ t ∧ t ≤ 9223372036854775807) (hp9 : -9223372036854775808 ≤ f ∧ f ≤ 9223372036854775807) (hp10 : 0 ≤ m ∧ m ≤ 18446744073709551615) (hp11 : -9223372036854775808 ≤ n ∧ n ≤ 9223372036854775807) (hp12 : (t = 255 ∧ 0 ≤ f ∧ f ≤ 65535 ∧ m = 0) ∨ (1 ≤ t ∧ t ≤ 200 ∧ 0 ≤ f ∧ f ≤ 16 ∧ m < 2 ^ (Int.toNat f) ∧ m < 65536)) (hp13 : t ≠ 255) (hp14 : q - p < f + 2) (hp15 : 2 * (f + 2) ≤ n) (hp16 : f + 2 ≤ l - b) : Pub Try.prog 48 [.agg (mr W xs ys (r5 s b l p q)), .agg [.i t, .i f, .u m], .i n] (fun rv => rv = .tup [.agg (mr W (px (rtx xs s p q) ((s + 1) * 4294967296 + b) t f m) (py (rty ys s p q) ((s + 1) * 4294967296 + b) t f m) (r5 s (b + (min n (l - b))) l (b + (f + 2)) (b + (min n (l - b))))), .u ((s + 1) * 4294967296 + b), .i 0]) := by
  refine (bmake W xs ys s b l p q n t f m hp0 hp1 hp2 hp3 hp4 hp5 hp6 hp7 hp8 hp9 hp10 hp11).mono ?_
  rintro _ (⟨g0, rfl⟩ | ⟨g0, g1, g2, rfl⟩ | ⟨g0, g1, g2, g3, g4, rfl⟩ | ⟨g0, g1, g2, g3, g4, rfl⟩ | ⟨g0, g1, g2, g3, g4, rfl⟩ | ⟨g0, g1, g2, g3, g4, rfl⟩)
  all_goals first | rfl | (exfalso; first | omega | grind)

end Go.Proofs.Ytjchmajamlehmaa.X
