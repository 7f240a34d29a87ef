/- Contracts of Go functions: what each returns, for every input that its premises name; no memory of the caller is touched. Printed by a program. -/
import Derived.Test.YtjchmajamlehmaaXt
import Derived.Test.YtjchmajamlehmaaXq2
import Derived.Test.YtjchmajamlehmaaXf1
import Derived.Test.YtjchmajamlehmaaXu8
namespace Go.Proofs.Ytjchmajamlehmaa.X
open Go Go.RowKit
set_option linter.unusedVariables false      -- a premise may serve only to tell which way is taken
set_option linter.unusedSimpArgs false
theorem nadd (a b : Int) (hp0 : 0 ≤ a ∧ a ≤ 18446744073709551615) (hp1 : 0 ≤ b ∧ b ≤ 18446744073709551615) : Pub Try.prog 53 [.u a, .u b] (fun rv => (∃ r : Int, (0 ≤ r ∧ r ≤ 18446744073709551615) ∧ rv = .u r)) := by
 refine pub_of TT_ok Try.func53 rfl (by decide) (Nat.le_of_ble_eq_true (by kernel_rfl)) (by kernel_rfl) ?_
 refine rgi [] 1 [4, 0, 1] [] [] trivial ?_
 refine xw_seq ?_
 refine reg ?_
 refine rki [] 1 0 [5, 4, 1] [] [] trivial ?_
 refine callx (f := 75) (args := [.u a]) (d := (some 6)) (by kernel_rfl) (xcall_of TT_ok Try.func75 rfl (by decide) (Nat.le_of_ble_eq_true (by kernel_rfl)) ?_)
 refine rgi [] 1 [2, 0] [] [] trivial ?_
 refine xw_seq ?_
 refine reg ?_
 refine rk [] 1 0 ⟨[(6, .u a), (2, .raw (.complex .f64 0 0))], [], 0⟩ [] trivial ?_
 refine callx (f := 90) (args := [.u a]) (d := (some 7)) (by kernel_rfl) (xcall_of TT_ok Try.func90 rfl (by decide) (Nat.le_of_ble_eq_true (by kernel_rfl)) ?_)
 refine rgi [] 2 [3, 2, 0] [] [] trivial ?_
 refine rgi [(1, .i (a / 65536)), (2, .i (IntKind.i16.wrap (a / 65536))), (3, .i (IntKind.i64.wrap (IntKind.i16.wrap (a / 65536)))), (5, .i (IntKind.i16.wrap a)), (6, .i (IntKind.i64.wrap (IntKind.i16.wrap a)))] 9 [3, 2] [] [(0 : Int) ≤ 16 ∧ a.fdiv (2 ^ min (16 : Int).toNat IntKind.u64.bits) = (a / 65536), sm (IntKind.i16.wrap (a / 65536)), sm (IntKind.i64.wrap (IntKind.i16.wrap (a / 65536))), sm (IntKind.i16.wrap a), sm (IntKind.i64.wrap (IntKind.i16.wrap a))] ⟨⟨by omega, shr_eq rfl⟩, rfl, rfl, rfl, rfl, trivial⟩ ?_
 refine xw_ret ?_
 refine ⟨.tup [.i (IntKind.i64.wrap (IntKind.i16.wrap (a / 65536))), .i (IntKind.i64.wrap (IntKind.i16.wrap a))], by kernel_rfl, ?_⟩
 refine rk [] 5 2 ⟨[(4, .i (IntKind.i64.wrap (IntKind.i16.wrap a))), (3, .i (IntKind.i64.wrap (IntKind.i16.wrap (a / 65536)))), (2, .raw (.complex .f64 0 0))], [], 0⟩ [] trivial ?_
 refine en ?_
 refine an ?_
 refine xw_seq ?_
 refine reg ?_
 refine rki [] 1 0 [10, 4, 2] [] [] trivial ?_
 refine fop_if (u := 3) (t := 140) (k := .i64) (n := (IntKind.i64.wrap (IntKind.i16.wrap (a / 65536)))) (d := 11) (sd := .int .i64) (by kernel_rfl) (by kernel_rfl) (by kernel_rfl) (fun b0 => ?_)
 refine rki [] 1 2 [12, 11, 2] [] [] trivial ?_
 refine fop_if (u := 3) (t := 140) (k := .i64) (n := (IntKind.i64.wrap (IntKind.i16.wrap a))) (d := 13) (sd := .int .i64) (by kernel_rfl) (by kernel_rfl) (by kernel_rfl) (fun b1 => ?_)
 refine fop_cx (a := b0) (b := b1) (d := 14) (by kernel_rfl) ?_
 refine rki [] 1 5 [2] [] [] trivial ?_
 refine en ?_
 refine an ?_
 refine xw_ret ?_
 refine ⟨.raw (.complex .f64 b0 b1), by kernel_rfl, ?_⟩
 show XOi _ _ _ _ _ _ _ ⟨[(6, .raw (.complex .f64 b0 b1)), (5, .u a), (4, .u 0), (1, .u b)], [], 0⟩
 refine rki [] 1 2 [7, 6, 4] [] [] trivial ?_
 refine callx (f := 75) (args := [.u b]) (d := (some 8)) (by kernel_rfl) (xcall_of TT_ok Try.func75 rfl (by decide) (Nat.le_of_ble_eq_true (by kernel_rfl)) ?_)
 refine rgi [] 1 [2, 0] [] [] trivial ?_
 refine xw_seq ?_
 refine reg ?_
 refine rki [] 1 0 [6, 2] [] [] trivial ?_
 refine callx (f := 90) (args := [.u b]) (d := (some 7)) (by kernel_rfl) (xcall_of TT_ok Try.func90 rfl (by decide) (Nat.le_of_ble_eq_true (by kernel_rfl)) ?_)
 refine rg [] 2 ⟨[(3, .i 0), (2, .i 0), (0, .u b)], [], 0⟩ [] trivial ?_
 refine rgi [(1, .i (b / 65536)), (2, .i (IntKind.i16.wrap (b / 65536))), (3, .i (IntKind.i64.wrap (IntKind.i16.wrap (b / 65536)))), (5, .i (IntKind.i16.wrap b)), (6, .i (IntKind.i64.wrap (IntKind.i16.wrap b)))] 9 [3, 2] [] [(0 : Int) ≤ 16 ∧ b.fdiv (2 ^ min (16 : Int).toNat IntKind.u64.bits) = (b / 65536), sm (IntKind.i16.wrap (b / 65536)), sm (IntKind.i64.wrap (IntKind.i16.wrap (b / 65536))), sm (IntKind.i16.wrap b), sm (IntKind.i64.wrap (IntKind.i16.wrap b))] ⟨⟨by omega, shr_eq rfl⟩, rfl, rfl, rfl, rfl, trivial⟩ ?_
 refine xw_ret ?_
 refine ⟨.tup [.i (IntKind.i64.wrap (IntKind.i16.wrap (b / 65536))), .i (IntKind.i64.wrap (IntKind.i16.wrap b))], by kernel_rfl, ?_⟩
 refine rki [] 5 2 [4, 3, 2] [] [] trivial ?_
 refine en ?_
 refine an ?_
 refine xw_seq ?_
 refine reg ?_
 refine rk [] 1 0 ⟨[(10, .i (IntKind.i64.wrap (IntKind.i16.wrap (b / 65536)))), (4, .i (IntKind.i64.wrap (IntKind.i16.wrap b))), (2, .raw (.complex .f64 0 0))], [], 0⟩ [] trivial ?_
 refine fop_if (u := 3) (t := 140) (k := .i64) (n := (IntKind.i64.wrap (IntKind.i16.wrap (b / 65536)))) (d := 11) (sd := .int .i64) (by kernel_rfl) (by kernel_rfl) (by kernel_rfl) (fun b2 => ?_)
 refine rki [] 1 2 [12, 11, 2] [] [] trivial ?_
 refine fop_if (u := 3) (t := 140) (k := .i64) (n := (IntKind.i64.wrap (IntKind.i16.wrap b))) (d := 13) (sd := .int .i64) (by kernel_rfl) (by kernel_rfl) (by kernel_rfl) (fun b3 => ?_)
 refine fop_cx (a := b2) (b := b3) (d := 14) (by kernel_rfl) ?_
 refine rki [] 1 5 [2] [] [] trivial ?_
 refine en ?_
 refine an ?_
 refine xw_ret ?_
 refine ⟨.raw (.complex .f64 b2 b3), by kernel_rfl, ?_⟩
 refine fop_ad (a := b0) (b := b1) (a' := b2) (b' := b3) (d := 9) (by kernel_rfl) (fun u4 v4 => ?_)
 refine callx (f := 74) (args := [.raw (.complex .f64 u4 v4)]) (d := (some 10)) (by kernel_rfl) (xcall_of TT_ok Try.func74 rfl (by decide) (Nat.le_of_ble_eq_true (by kernel_rfl)) ?_)
 refine rg [] 1 ⟨[(2, .u 0), (0, .raw (.complex .f64 u4 v4))], [], 0⟩ [] trivial ?_
 refine rgi [] 1 [3, 2, 0] [] [] trivial ?_
 refine xw_seq ?_
 refine reg ?_
 refine rki [] 2 0 [5, 4, 3, 2, 0] [] [] trivial ?_
 refine fop_re (a := u4) (b := v4) (d := 6) (by kernel_rfl) ?_
 refine callx (f := 88) (args := [.raw (.float .f64 u4)]) (d := (some 7)) (by kernel_rfl) (xcall_of TT_ok Try.func88 rfl (by decide) (Nat.le_of_ble_eq_true (by kernel_rfl)) ?_)
 refine rgi [] 1 [2, 0] [] [] trivial ?_
 refine xw_seq ?_
 refine reg ?_
 refine rk [] 1 0 ⟨[(3, .raw (.float .f64 u4)), (2, .i 0)], [], 0⟩ [] trivial ?_
 refine fop_fi (u := 140) (t := 3) (b := u4) (d := 4) (sd := .float .f64) (by kernel_rfl) (by kernel_rfl) (by kernel_rfl) (fun n5 h5 => ?_)
 refine rki [] 1 2 [2] [] [] trivial ?_
 refine en ?_
 refine an ?_
 refine xw_ret ?_
 refine ⟨.i n5, by kernel_rfl, ?_⟩
 refine rki [] 2 4 [9, 8, 7, 2] [] [] trivial ?_
 refine fop_im (a := u4) (b := v4) (d := 10) (by kernel_rfl) ?_
 refine callx (f := 88) (args := [.raw (.float .f64 v4)]) (d := (some 11)) (by kernel_rfl) (xcall_of TT_ok Try.func88 rfl (by decide) (Nat.le_of_ble_eq_true (by kernel_rfl)) ?_)
 refine rg [] 1 ⟨[(2, .i 0), (0, .raw (.float .f64 v4))], [], 0⟩ [] trivial ?_
 refine xw_seq ?_
 refine reg ?_
 refine rki [] 1 0 [3, 2] [] [] trivial ?_
 refine fop_fi (u := 140) (t := 3) (b := v4) (d := 4) (sd := .float .f64) (by kernel_rfl) (by kernel_rfl) (by kernel_rfl) (fun n6 h6 => ?_)
 refine rki [] 1 2 [2] [] [] trivial ?_
 refine en ?_
 refine an ?_
 refine xw_ret ?_
 refine ⟨.i n6, by kernel_rfl, ?_⟩
 refine callx (f := 89) (args := [.i n5, .i n6]) (d := (some 12)) (by kernel_rfl) (xcall_of TT_ok Try.func89 rfl (by decide) (Nat.le_of_ble_eq_true (by kernel_rfl)) ?_)
 refine rg [] 1 ⟨[(4, .u 0), (0, .i n5), (1, .i n6)], [], 0⟩ [] trivial ?_
 refine rgi [(1, .i (IntKind.u16.wrap n5)), (2, .i (IntKind.u64.wrap (IntKind.u16.wrap n5))), (3, .i (IntKind.u64.wrap ((IntKind.u64.wrap (IntKind.u16.wrap n5)) * 2 ^ min (16 : Int).toNat IntKind.u64.bits))), (5, .i (IntKind.u16.wrap n6)), (6, .i (IntKind.u64.wrap (IntKind.u16.wrap n6))), (7, .i (IntKind.u64.wrap (BitVec.ofInt 64 (IntKind.u64.wrap ((IntKind.u64.wrap (IntKind.u16.wrap n5)) * 2 ^ min (16 : Int).toNat IntKind.u64.bits)) ||| BitVec.ofInt 64 (IntKind.u64.wrap (IntKind.u16.wrap n6))).toNat))] 9 [4] [] [sm (IntKind.u16.wrap n5), sm (IntKind.u64.wrap (IntKind.u16.wrap n5)), (0 : Int) ≤ 16 ∧ (IntKind.u64.wrap ((IntKind.u64.wrap (IntKind.u16.wrap n5)) * 2 ^ min (16 : Int).toNat IntKind.u64.bits)) = (IntKind.u64.wrap ((IntKind.u64.wrap (IntKind.u16.wrap n5)) * 2 ^ min (16 : Int).toNat IntKind.u64.bits)), sm (IntKind.u16.wrap n6), sm (IntKind.u64.wrap (IntKind.u16.wrap n6)), sm (IntKind.u64.wrap (BitVec.ofInt 64 (IntKind.u64.wrap ((IntKind.u64.wrap (IntKind.u16.wrap n5)) * 2 ^ min (16 : Int).toNat IntKind.u64.bits)) ||| BitVec.ofInt 64 (IntKind.u64.wrap (IntKind.u16.wrap n6))).toNat)] ⟨rfl, rfl, ⟨by omega, rfl⟩, rfl, rfl, rfl, trivial⟩ ?_
 refine xw_ret ?_
 refine ⟨.u (IntKind.u64.wrap (BitVec.ofInt 64 (IntKind.u64.wrap ((IntKind.u64.wrap (IntKind.u16.wrap n5)) * 2 ^ min (16 : Int).toNat IntKind.u64.bits)) ||| BitVec.ofInt 64 (IntKind.u64.wrap (IntKind.u16.wrap n6))).toNat), by kernel_rfl, ?_⟩
 refine rki [] 1 9 [2] [] [] trivial ?_
 refine en ?_
 refine an ?_
 refine xw_ret ?_
 refine ⟨.u (IntKind.u64.wrap (BitVec.ofInt 64 (IntKind.u64.wrap ((IntKind.u64.wrap (IntKind.u16.wrap n5)) * 2 ^ min (16 : Int).toNat IntKind.u64.bits)) ||| BitVec.ofInt 64 (IntKind.u64.wrap (IntKind.u16.wrap n6))).toNat), by kernel_rfl, ?_⟩
 show XOi _ _ _ _ _ _ _ ⟨[(10, .u (IntKind.u64.wrap (BitVec.ofInt 64 (IntKind.u64.wrap ((IntKind.u64.wrap (IntKind.u16.wrap n5)) * 2 ^ min (16 : Int).toNat IntKind.u64.bits)) ||| BitVec.ofInt 64 (IntKind.u64.wrap (IntKind.u16.wrap n6))).toNat)), (9, .raw (.complex .f64 u4 v4)), (8, .raw (.complex .f64 b2 b3)), (7, .u b), (6, .raw (.complex .f64 b0 b1)), (4, .u 0)], [], 0⟩
 refine rki [] 1 6 [4] [] [] trivial ?_
 refine en ?_
 refine an ?_
 refine xw_ret ?_
 exact bs (.u (IntKind.u64.wrap (BitVec.ofInt 64 (IntKind.u64.wrap ((IntKind.u64.wrap (IntKind.u16.wrap n5)) * 2 ^ min (16 : Int).toNat IntKind.u64.bits)) ||| BitVec.ofInt 64 (IntKind.u64.wrap (IntKind.u16.wrap n6))).toNat)) (⟨(IntKind.u64.wrap (BitVec.ofInt 64 (IntKind.u64.wrap ((IntKind.u64.wrap (IntKind.u16.wrap n5)) * 2 ^ min (16 : Int).toNat IntKind.u64.bits)) ||| BitVec.ofInt 64 (IntKind.u64.wrap (IntKind.u16.wrap n6))).toNat), (by first | rfl | omega | exact wrap64 _), rfl⟩)

theorem nmul (a b : Int) (hp0 : 0 ≤ a ∧ a ≤ 18446744073709551615) (hp1 : 0 ≤ b ∧ b ≤ 18446744073709551615) : Pub Try.prog 54 [.u a, .u b] (fun rv => (∃ r : Int, (0 ≤ r ∧ r ≤ 18446744073709551615) ∧ rv = .u r)) := by
 refine pub_of TT_ok Try.func54 rfl (by decide) (Nat.le_of_ble_eq_true (by kernel_rfl)) (by kernel_rfl) ?_
 refine rgi [] 1 [4, 0, 1] [] [] trivial ?_
 refine xw_seq ?_
 refine reg ?_
 refine rki [] 1 0 [5, 4, 1] [] [] trivial ?_
 refine callx (f := 75) (args := [.u a]) (d := (some 6)) (by kernel_rfl) (xcall_of TT_ok Try.func75 rfl (by decide) (Nat.le_of_ble_eq_true (by kernel_rfl)) ?_)
 refine rgi [] 1 [2, 0] [] [] trivial ?_
 refine xw_seq ?_
 refine reg ?_
 refine rk [] 1 0 ⟨[(6, .u a), (2, .raw (.complex .f64 0 0))], [], 0⟩ [] trivial ?_
 refine callx (f := 90) (args := [.u a]) (d := (some 7)) (by kernel_rfl) (xcall_of TT_ok Try.func90 rfl (by decide) (Nat.le_of_ble_eq_true (by kernel_rfl)) ?_)
 refine rgi [] 2 [3, 2, 0] [] [] trivial ?_
 refine rgi [(1, .i (a / 65536)), (2, .i (IntKind.i16.wrap (a / 65536))), (3, .i (IntKind.i64.wrap (IntKind.i16.wrap (a / 65536)))), (5, .i (IntKind.i16.wrap a)), (6, .i (IntKind.i64.wrap (IntKind.i16.wrap a)))] 9 [3, 2] [] [(0 : Int) ≤ 16 ∧ a.fdiv (2 ^ min (16 : Int).toNat IntKind.u64.bits) = (a / 65536), sm (IntKind.i16.wrap (a / 65536)), sm (IntKind.i64.wrap (IntKind.i16.wrap (a / 65536))), sm (IntKind.i16.wrap a), sm (IntKind.i64.wrap (IntKind.i16.wrap a))] ⟨⟨by omega, shr_eq rfl⟩, rfl, rfl, rfl, rfl, trivial⟩ ?_
 refine xw_ret ?_
 refine ⟨.tup [.i (IntKind.i64.wrap (IntKind.i16.wrap (a / 65536))), .i (IntKind.i64.wrap (IntKind.i16.wrap a))], by kernel_rfl, ?_⟩
 refine rk [] 5 2 ⟨[(4, .i (IntKind.i64.wrap (IntKind.i16.wrap a))), (3, .i (IntKind.i64.wrap (IntKind.i16.wrap (a / 65536)))), (2, .raw (.complex .f64 0 0))], [], 0⟩ [] trivial ?_
 refine en ?_
 refine an ?_
 refine xw_seq ?_
 refine reg ?_
 refine rki [] 1 0 [10, 4, 2] [] [] trivial ?_
 refine fop_if (u := 3) (t := 140) (k := .i64) (n := (IntKind.i64.wrap (IntKind.i16.wrap (a / 65536)))) (d := 11) (sd := .int .i64) (by kernel_rfl) (by kernel_rfl) (by kernel_rfl) (fun b0 => ?_)
 refine rki [] 1 2 [12, 11, 2] [] [] trivial ?_
 refine fop_if (u := 3) (t := 140) (k := .i64) (n := (IntKind.i64.wrap (IntKind.i16.wrap a))) (d := 13) (sd := .int .i64) (by kernel_rfl) (by kernel_rfl) (by kernel_rfl) (fun b1 => ?_)
 refine fop_cx (a := b0) (b := b1) (d := 14) (by kernel_rfl) ?_
 refine rki [] 1 5 [2] [] [] trivial ?_
 refine en ?_
 refine an ?_
 refine xw_ret ?_
 refine ⟨.raw (.complex .f64 b0 b1), by kernel_rfl, ?_⟩
 show XOi _ _ _ _ _ _ _ ⟨[(6, .raw (.complex .f64 b0 b1)), (5, .u a), (4, .u 0), (1, .u b)], [], 0⟩
 refine rki [] 1 2 [7, 6, 4] [] [] trivial ?_
 refine callx (f := 75) (args := [.u b]) (d := (some 8)) (by kernel_rfl) (xcall_of TT_ok Try.func75 rfl (by decide) (Nat.le_of_ble_eq_true (by kernel_rfl)) ?_)
 refine rgi [] 1 [2, 0] [] [] trivial ?_
 refine xw_seq ?_
 refine reg ?_
 refine rki [] 1 0 [6, 2] [] [] trivial ?_
 refine callx (f := 90) (args := [.u b]) (d := (some 7)) (by kernel_rfl) (xcall_of TT_ok Try.func90 rfl (by decide) (Nat.le_of_ble_eq_true (by kernel_rfl)) ?_)
 refine rg [] 2 ⟨[(3, .i 0), (2, .i 0), (0, .u b)], [], 0⟩ [] trivial ?_
 refine rgi [(1, .i (b / 65536)), (2, .i (IntKind.i16.wrap (b / 65536))), (3, .i (IntKind.i64.wrap (IntKind.i16.wrap (b / 65536)))), (5, .i (IntKind.i16.wrap b)), (6, .i (IntKind.i64.wrap (IntKind.i16.wrap b)))] 9 [3, 2] [] [(0 : Int) ≤ 16 ∧ b.fdiv (2 ^ min (16 : Int).toNat IntKind.u64.bits) = (b / 65536), sm (IntKind.i16.wrap (b / 65536)), sm (IntKind.i64.wrap (IntKind.i16.wrap (b / 65536))), sm (IntKind.i16.wrap b), sm (IntKind.i64.wrap (IntKind.i16.wrap b))] ⟨⟨by omega, shr_eq rfl⟩, rfl, rfl, rfl, rfl, trivial⟩ ?_
 refine xw_ret ?_
 refine ⟨.tup [.i (IntKind.i64.wrap (IntKind.i16.wrap (b / 65536))), .i (IntKind.i64.wrap (IntKind.i16.wrap b))], by kernel_rfl, ?_⟩
 refine rki [] 5 2 [4, 3, 2] [] [] trivial ?_
 refine en ?_
 refine an ?_
 refine xw_seq ?_
 refine reg ?_
 refine rk [] 1 0 ⟨[(10, .i (IntKind.i64.wrap (IntKind.i16.wrap (b / 65536)))), (4, .i (IntKind.i64.wrap (IntKind.i16.wrap b))), (2, .raw (.complex .f64 0 0))], [], 0⟩ [] trivial ?_
 refine fop_if (u := 3) (t := 140) (k := .i64) (n := (IntKind.i64.wrap (IntKind.i16.wrap (b / 65536)))) (d := 11) (sd := .int .i64) (by kernel_rfl) (by kernel_rfl) (by kernel_rfl) (fun b2 => ?_)
 refine rki [] 1 2 [12, 11, 2] [] [] trivial ?_
 refine fop_if (u := 3) (t := 140) (k := .i64) (n := (IntKind.i64.wrap (IntKind.i16.wrap b))) (d := 13) (sd := .int .i64) (by kernel_rfl) (by kernel_rfl) (by kernel_rfl) (fun b3 => ?_)
 refine fop_cx (a := b2) (b := b3) (d := 14) (by kernel_rfl) ?_
 refine rki [] 1 5 [2] [] [] trivial ?_
 refine en ?_
 refine an ?_
 refine xw_ret ?_
 refine ⟨.raw (.complex .f64 b2 b3), by kernel_rfl, ?_⟩
 refine fop_mu (a := b0) (b := b1) (a' := b2) (b' := b3) (d := 9) (by kernel_rfl) (fun u4 v4 => ?_)
 refine callx (f := 74) (args := [.raw (.complex .f64 u4 v4)]) (d := (some 10)) (by kernel_rfl) (xcall_of TT_ok Try.func74 rfl (by decide) (Nat.le_of_ble_eq_true (by kernel_rfl)) ?_)
 refine rg [] 1 ⟨[(2, .u 0), (0, .raw (.complex .f64 u4 v4))], [], 0⟩ [] trivial ?_
 refine rgi [] 1 [3, 2, 0] [] [] trivial ?_
 refine xw_seq ?_
 refine reg ?_
 refine rki [] 2 0 [5, 4, 3, 2, 0] [] [] trivial ?_
 refine fop_re (a := u4) (b := v4) (d := 6) (by kernel_rfl) ?_
 refine callx (f := 88) (args := [.raw (.float .f64 u4)]) (d := (some 7)) (by kernel_rfl) (xcall_of TT_ok Try.func88 rfl (by decide) (Nat.le_of_ble_eq_true (by kernel_rfl)) ?_)
 refine rgi [] 1 [2, 0] [] [] trivial ?_
 refine xw_seq ?_
 refine reg ?_
 refine rk [] 1 0 ⟨[(3, .raw (.float .f64 u4)), (2, .i 0)], [], 0⟩ [] trivial ?_
 refine fop_fi (u := 140) (t := 3) (b := u4) (d := 4) (sd := .float .f64) (by kernel_rfl) (by kernel_rfl) (by kernel_rfl) (fun n5 h5 => ?_)
 refine rki [] 1 2 [2] [] [] trivial ?_
 refine en ?_
 refine an ?_
 refine xw_ret ?_
 refine ⟨.i n5, by kernel_rfl, ?_⟩
 refine rki [] 2 4 [9, 8, 7, 2] [] [] trivial ?_
 refine fop_im (a := u4) (b := v4) (d := 10) (by kernel_rfl) ?_
 refine callx (f := 88) (args := [.raw (.float .f64 v4)]) (d := (some 11)) (by kernel_rfl) (xcall_of TT_ok Try.func88 rfl (by decide) (Nat.le_of_ble_eq_true (by kernel_rfl)) ?_)
 refine rg [] 1 ⟨[(2, .i 0), (0, .raw (.float .f64 v4))], [], 0⟩ [] trivial ?_
 refine xw_seq ?_
 refine reg ?_
 refine rki [] 1 0 [3, 2] [] [] trivial ?_
 refine fop_fi (u := 140) (t := 3) (b := v4) (d := 4) (sd := .float .f64) (by kernel_rfl) (by kernel_rfl) (by kernel_rfl) (fun n6 h6 => ?_)
 refine rki [] 1 2 [2] [] [] trivial ?_
 refine en ?_
 refine an ?_
 refine xw_ret ?_
 refine ⟨.i n6, by kernel_rfl, ?_⟩
 refine callx (f := 89) (args := [.i n5, .i n6]) (d := (some 12)) (by kernel_rfl) (xcall_of TT_ok Try.func89 rfl (by decide) (Nat.le_of_ble_eq_true (by kernel_rfl)) ?_)
 refine rg [] 1 ⟨[(4, .u 0), (0, .i n5), (1, .i n6)], [], 0⟩ [] trivial ?_
 refine rgi [(1, .i (IntKind.u16.wrap n5)), (2, .i (IntKind.u64.wrap (IntKind.u16.wrap n5))), (3, .i (IntKind.u64.wrap ((IntKind.u64.wrap (IntKind.u16.wrap n5)) * 2 ^ min (16 : Int).toNat IntKind.u64.bits))), (5, .i (IntKind.u16.wrap n6)), (6, .i (IntKind.u64.wrap (IntKind.u16.wrap n6))), (7, .i (IntKind.u64.wrap (BitVec.ofInt 64 (IntKind.u64.wrap ((IntKind.u64.wrap (IntKind.u16.wrap n5)) * 2 ^ min (16 : Int).toNat IntKind.u64.bits)) ||| BitVec.ofInt 64 (IntKind.u64.wrap (IntKind.u16.wrap n6))).toNat))] 9 [4] [] [sm (IntKind.u16.wrap n5), sm (IntKind.u64.wrap (IntKind.u16.wrap n5)), (0 : Int) ≤ 16 ∧ (IntKind.u64.wrap ((IntKind.u64.wrap (IntKind.u16.wrap n5)) * 2 ^ min (16 : Int).toNat IntKind.u64.bits)) = (IntKind.u64.wrap ((IntKind.u64.wrap (IntKind.u16.wrap n5)) * 2 ^ min (16 : Int).toNat IntKind.u64.bits)), sm (IntKind.u16.wrap n6), sm (IntKind.u64.wrap (IntKind.u16.wrap n6)), sm (IntKind.u64.wrap (BitVec.ofInt 64 (IntKind.u64.wrap ((IntKind.u64.wrap (IntKind.u16.wrap n5)) * 2 ^ min (16 : Int).toNat IntKind.u64.bits)) ||| BitVec.ofInt 64 (IntKind.u64.wrap (IntKind.u16.wrap n6))).toNat)] ⟨rfl, rfl, ⟨by omega, rfl⟩, rfl, rfl, rfl, trivial⟩ ?_
 refine xw_ret ?_
 refine ⟨.u (IntKind.u64.wrap (BitVec.ofInt 64 (IntKind.u64.wrap ((IntKind.u64.wrap (IntKind.u16.wrap n5)) * 2 ^ min (16 : Int).toNat IntKind.u64.bits)) ||| BitVec.ofInt 64 (IntKind.u64.wrap (IntKind.u16.wrap n6))).toNat), by kernel_rfl, ?_⟩
 refine rki [] 1 9 [2] [] [] trivial ?_
 refine en ?_
 refine an ?_
 refine xw_ret ?_
 refine ⟨.u (IntKind.u64.wrap (BitVec.ofInt 64 (IntKind.u64.wrap ((IntKind.u64.wrap (IntKind.u16.wrap n5)) * 2 ^ min (16 : Int).toNat IntKind.u64.bits)) ||| BitVec.ofInt 64 (IntKind.u64.wrap (IntKind.u16.wrap n6))).toNat), by kernel_rfl, ?_⟩
 show XOi _ _ _ _ _ _ _ ⟨[(10, .u (IntKind.u64.wrap (BitVec.ofInt 64 (IntKind.u64.wrap ((IntKind.u64.wrap (IntKind.u16.wrap n5)) * 2 ^ min (16 : Int).toNat IntKind.u64.bits)) ||| BitVec.ofInt 64 (IntKind.u64.wrap (IntKind.u16.wrap n6))).toNat)), (9, .raw (.complex .f64 u4 v4)), (8, .raw (.complex .f64 b2 b3)), (7, .u b), (6, .raw (.complex .f64 b0 b1)), (4, .u 0)], [], 0⟩
 refine rki [] 1 6 [4] [] [] trivial ?_
 refine en ?_
 refine an ?_
 refine xw_ret ?_
 exact bs (.u (IntKind.u64.wrap (BitVec.ofInt 64 (IntKind.u64.wrap ((IntKind.u64.wrap (IntKind.u16.wrap n5)) * 2 ^ min (16 : Int).toNat IntKind.u64.bits)) ||| BitVec.ofInt 64 (IntKind.u64.wrap (IntKind.u16.wrap n6))).toNat)) (⟨(IntKind.u64.wrap (BitVec.ofInt 64 (IntKind.u64.wrap ((IntKind.u64.wrap (IntKind.u16.wrap n5)) * 2 ^ min (16 : Int).toNat IntKind.u64.bits)) ||| BitVec.ofInt 64 (IntKind.u64.wrap (IntKind.u16.wrap n6))).toNat), (by first | rfl | omega | exact wrap64 _), rfl⟩)

theorem abehe (l : List Ent) (a i : Int) (hp0 : (l.length : Int) * 16 ≤ 140737488355000) : Pub Try.prog 20 [(sE l), .agg [.u a, .i i]] (fun rv => rv = (sE (l ++ [(a, i)]))) := by
 refine pub_of TT_ok Try.func20 rfl (by decide) (Nat.le_of_ble_eq_true (by kernel_rfl)) (by kernel_rfl) ?_
 refine rgi [] 2 [4, 3, 0] [0] [] trivial ?_
 refine xw_seq ?_
 refine sreg hmix [([(0, .cells [.u a, .i i] 55)], 1), ([(1, .row 2 55 (((List.map entS ((l.take (((l.length : Int) : Int).toNat)).drop ((0 : Int).toNat)))) ++ ((List.map entS [(a, i)])))), (0, .cells [.u a, .i i] 55)], 2)] [8] [(2, [1]), (4, [3]), (5, [0, 1, 2, 3, 4]), (7, [6]), (8, [0, 1, 2, 3, 4, 5, 6, 7]), (9, [0, 1, 2, 3, 4, 5, 6, 7, 8])] (by kernel_rfl) (by kernel_rfl) (by kernel_rfl) (by kernel_rfl) (by kernel_rfl) ?_
 refine sri [(2, .i ((l).length : Int)), (4, .i ((l).length : Int))] 6 0 [True, True, ((((List.map entS l)).length : Nat) : Int) = ((l).length : Int), True, ((((List.map entS l)).length : Nat) : Int) = ((l).length : Int), (0 : Int) ≤ 0 ∧ 0 ≤ ((l).length : Int) ∧ ((l).length : Int) = ((l).length : Int) ∧ ((l).length : Int) ≤ ((((List.map entS l)).length : Nat) : Int)] ⟨trivial, trivial, (by simp), trivial, (by simp), ⟨by omega, by omega, by omega, by first | omega | (simp only [len_st]; omega) | (simp; done) | (simp; omega) | (simp [len_st, len_stx, len_sty, len_zx, len_zy]; omega)⟩, trivial⟩ ?_
 refine ssets 10 (x := true) (z := 2) (L := ((((List.map entS l)).take (((l).length : Int) : Int).toNat).drop (0 : Int).toNat)) (L' := (List.map entS ((l.take (((l.length : Int) : Int).toNat)).drop ((0 : Int).toNat)))) (by kernel_rfl) mapf_cut ?_
 refine sri [(7, .t)] 4 6 [True, True, (∀ y ∈ ((List.map entS [(a, i)]) : List SV), ElemOk y) ∧ (true = true → 1 ≤ ((List.map entS [(a, i)]) : List SV).length ∧ ∀ x ∈ ((List.map entS ((l.take (((l.length : Int) : Int).toNat)).drop ((0 : Int).toNat))) : List SV), ElemOk x) ∧ (((List.map entS ((l.take (((l.length : Int) : Int).toNat)).drop ((0 : Int).toNat))) : List SV).length + ((List.map entS [(a, i)]) : List SV).length) * 16 ≤ 140737488355328 ∧ ((List.map entS ((l.take (((l.length : Int) : Int).toNat)).drop ((0 : Int).toNat))) : List SV).length + ((List.map entS [(a, i)]) : List SV).length ≤ 4611686018427387904, sm ([(1, .row 2 55 (((List.map entS ((l.take (((l.length : Int) : Int).toNat)).drop ((0 : Int).toNat)))) ++ ((List.map entS [(a, i)])))), (0, .cells [.u a, .i i] 55)] : Mem), sm (2 : Nat), True] ⟨trivial, trivial, ⟨elem_ent, (fun _ => ⟨by first | omega | (simp only [len_st]; omega) | (simp; done) | (simp; omega) | (simp [len_st, len_stx, len_sty, len_zx, len_zy]; omega), elem_ent⟩), by first | omega | (simp only [len_st]; omega) | (simp; done) | (simp; omega) | (simp [len_st, len_stx, len_sty, len_zx, len_zy]; omega), by first | omega | (simp only [len_st]; omega) | (simp; done) | (simp; omega) | (simp [len_st, len_stx, len_sty, len_zx, len_zy]; omega)⟩, rfl, rfl, trivial, trivial⟩ ?_
 refine sen ?_
 refine an ?_
 refine xw_ret ?_
 exact bk_ret (.own 1) (.sl false 2 (((List.map entS ((l.take (((l.length : Int) : Int).toNat)).drop ((0 : Int).toNat)))) ++ ((List.map entS [(a, i)])))) (sE (l ++ [(a, i)])) (by kernel_rfl) (by kernel_rfl) (wkd [(false = true → false = true), (((List.map entS ((l.take (((l.length : Int) : Int).toNat)).drop ((0 : Int).toNat)))) ++ ((List.map entS [(a, i)]))) = (List.map entS (l ++ [(a, i)]))] (by kernel_rfl) ⟨id, (by first | rfl | (simp; done)), trivial⟩) rfl

theorem ladd (l : List Ent) (a i n : Int) (hp0 : (l.length : Int) * 16 ≤ 140737488355000) (hp1 : -9223372036854775808 ≤ n ∧ n ≤ 9223372036854775807) : Pub Try.prog 19 [(sE l), .agg [.u a, .i i], .i n] (fun rv => ((n ≤ (l.length : Int) ∨ 64 ≤ (l.length : Int)) ∧ rv = .tup [(sE l), .i 4]) ∨ ((¬ (n ≤ (l.length : Int) ∨ 64 ≤ (l.length : Int))) ∧ rv = .tup [(sE (l ++ [(a, i)])), .i 0])) := by
 refine pub_of TT_ok Try.func19 rfl (by decide) (Nat.le_of_ble_eq_true (by kernel_rfl)) (by kernel_rfl) ?_
 refine rgi [] 3 [7, 6, 4, 0, 2] [0] [] trivial ?_
 refine xw_seq ?_
 refine rgi [(1, .i ((l).length : Int)), (3, .i (min n 64)), (4, .bool (decide ((min n 64) ≤ ((l).length : Int))))] 5 [12, 7, 6, 4, 0] [0] [((((List.map entS l)).length : Nat) : Int) = ((l).length : Int), (if 64 < n then 64 else n) = (min n 64), sm (decide ((min n 64) ≤ ((l).length : Int)))] ⟨(by simp), (min_eq _ _), rfl, trivial⟩ ?_
 refine xw_cond (b := (decide ((min n 64) ≤ ((l).length : Int)))) (by kernel_rfl) (fun h0 => ?_) (fun h0 => ?_)
 ·
  replace h0 : (min n 64) ≤ (l.length : Int) := of_decide_eq_true h0
  refine rgi [] 3 [7, 6, 4, 0] [0] [] trivial ?_
  refine xw_ret ?_
  refine an_ret ?_
  exact bs (.tup [(sE l), .i 4]) (Or.inl <| ⟨(by omega), rfl⟩)
 ·
  replace h0 : ¬ ((min n 64) ≤ (l.length : Int)) := of_decide_eq_false h0
  refine xw_skip ?_
  refine an ?_
  refine xw_seq ?_
  refine sreg hmix [([(0, .cells [.u a, .i i] 55)], 1), ([(1, .row 2 55 (((List.map entS ((l.take (((l.length : Int) : Int).toNat)).drop ((0 : Int).toNat)))) ++ ((List.map entS [(a, i)])))), (0, .cells [.u a, .i i] 55)], 2)] [8] [(2, [1]), (4, [3]), (5, [0, 1, 2, 3, 4]), (7, [6]), (8, [0, 1, 2, 3, 4, 5, 6, 7]), (9, [0, 1, 2, 3, 4, 5, 6, 7, 8]), (10, [0, 1, 2, 3, 4, 5, 6, 7, 8, 9])] (by kernel_rfl) (by kernel_rfl) (by kernel_rfl) (by kernel_rfl) (by kernel_rfl) ?_
  refine sri [(2, .i ((l).length : Int)), (4, .i ((l).length : Int))] 6 0 [True, True, ((((List.map entS l)).length : Nat) : Int) = ((l).length : Int), True, ((((List.map entS l)).length : Nat) : Int) = ((l).length : Int), (0 : Int) ≤ 0 ∧ 0 ≤ ((l).length : Int) ∧ ((l).length : Int) = ((l).length : Int) ∧ ((l).length : Int) ≤ ((((List.map entS l)).length : Nat) : Int)] ⟨trivial, trivial, (by simp), trivial, (by simp), ⟨by omega, by omega, by omega, by first | omega | (simp only [len_st]; omega) | (simp; done) | (simp; omega) | (simp [len_st, len_stx, len_sty, len_zx, len_zy]; omega)⟩, trivial⟩ ?_
  refine ssets 19 (x := true) (z := 2) (L := ((((List.map entS l)).take (((l).length : Int) : Int).toNat).drop (0 : Int).toNat)) (L' := (List.map entS ((l.take (((l.length : Int) : Int).toNat)).drop ((0 : Int).toNat)))) (by kernel_rfl) mapf_cut ?_
  refine sri [(7, .t)] 5 6 [True, True, (∀ y ∈ ((List.map entS [(a, i)]) : List SV), ElemOk y) ∧ (true = true → 1 ≤ ((List.map entS [(a, i)]) : List SV).length ∧ ∀ x ∈ ((List.map entS ((l.take (((l.length : Int) : Int).toNat)).drop ((0 : Int).toNat))) : List SV), ElemOk x) ∧ (((List.map entS ((l.take (((l.length : Int) : Int).toNat)).drop ((0 : Int).toNat))) : List SV).length + ((List.map entS [(a, i)]) : List SV).length) * 16 ≤ 140737488355328 ∧ ((List.map entS ((l.take (((l.length : Int) : Int).toNat)).drop ((0 : Int).toNat))) : List SV).length + ((List.map entS [(a, i)]) : List SV).length ≤ 4611686018427387904, sm ([(1, .row 2 55 (((List.map entS ((l.take (((l.length : Int) : Int).toNat)).drop ((0 : Int).toNat)))) ++ ((List.map entS [(a, i)])))), (0, .cells [.u a, .i i] 55)] : Mem), sm (2 : Nat), True, True] ⟨trivial, trivial, ⟨elem_ent, (fun _ => ⟨by first | omega | (simp only [len_st]; omega) | (simp; done) | (simp; omega) | (simp [len_st, len_stx, len_sty, len_zx, len_zy]; omega), elem_ent⟩), by first | omega | (simp only [len_st]; omega) | (simp; done) | (simp; omega) | (simp [len_st, len_stx, len_sty, len_zx, len_zy]; omega), by first | omega | (simp only [len_st]; omega) | (simp; done) | (simp; omega) | (simp [len_st, len_stx, len_sty, len_zx, len_zy]; omega)⟩, rfl, rfl, trivial, trivial, trivial⟩ ?_
  refine sen ?_
  refine an ?_
  refine xw_ret ?_
  exact bk_ret (.tup [.own 1, .i 0]) (.tup [.sl false 2 (((List.map entS ((l.take (((l.length : Int) : Int).toNat)).drop ((0 : Int).toNat)))) ++ ((List.map entS [(a, i)]))), .i 0]) (.tup [(sE (l ++ [(a, i)])), .i 0]) (by kernel_rfl) (by kernel_rfl) (wkd [(false = true → false = true), (((List.map entS ((l.take (((l.length : Int) : Int).toNat)).drop ((0 : Int).toNat)))) ++ ((List.map entS [(a, i)]))) = (List.map entS (l ++ [(a, i)])), (0 : Int) = 0] (by kernel_rfl) ⟨id, (by first | rfl | (simp; done)), rfl, trivial⟩) (Or.inr <| ⟨(by omega), rfl⟩)

theorem ladd_1 (l : List Ent) (a i n : Int) (hp0 : (l.length : Int) * 16 ≤ 140737488355000) (hp1 : -9223372036854775808 ≤ n ∧ n ≤ 9223372036854775807) (hp2 : n ≤ (l.length : Int) ∨ 64 ≤ (l.length : Int)) : Pub Try.prog 19 [(sE l), .agg [.u a, .i i], .i n] (fun rv => rv = .tup [(sE l), .i 4]) := by
  refine (ladd l a i n hp0 hp1).mono ?_
  rintro _ (⟨g0, rfl⟩ | ⟨g0, rfl⟩)
  all_goals first | rfl | (exfalso; first | omega | grind)

theorem ladd_2 (l : List Ent) (a i n : Int) (hp0 : (l.length : Int) * 16 ≤ 140737488355000) (hp1 : -9223372036854775808 ≤ n ∧ n ≤ 9223372036854775807) (hp2 : ¬ (n ≤ (l.length : Int) ∨ 64 ≤ (l.length : Int))) : Pub Try.prog 19 [(sE l), .agg [.u a, .i i], .i n] (fun rv => rv = .tup [(sE (l ++ [(a, i)])), .i 0]) := by
  refine (ladd l a i n hp0 hp1).mono ?_
  rintro _ (⟨g0, rfl⟩ | ⟨g0, rfl⟩)
  all_goals first | rfl | (exfalso; first | omega | grind)

theorem spush (l : List Int) (a : Int) (hp0 : (l.length : Int) * 8 ≤ 140737488355000) (hp1 : U64s l) : Pub Try.prog 52 [(s64 l), .u a] (fun rv => ((16 ≤ (l.length : Int)) ∧ rv = .tup [(s64 l), .i 4]) ∨ (((l.length : Int) < 16) ∧ rv = .tup [(s64 (l ++ [a])), .i 0])) := by
 refine pub_of TT_ok Try.func52 rfl (by decide) (Nat.le_of_ble_eq_true (by kernel_rfl)) (by kernel_rfl) ?_
 refine rgi [] 2 [5, 4, 0, 1] [] [] trivial ?_
 refine xw_seq ?_
 refine rgi [(1, .i ((l).length : Int)), (2, .bool (decide (16 ≤ ((l).length : Int))))] 3 [8, 5, 4, 0, 1] [] [((((m64 l)).length : Nat) : Int) = ((l).length : Int), sm (decide (16 ≤ ((l).length : Int)))] ⟨(by simp), rfl, trivial⟩ ?_
 refine xw_cond (b := (decide (16 ≤ ((l).length : Int)))) (by kernel_rfl) (fun h0 => ?_) (fun h0 => ?_)
 ·
  replace h0 : 16 ≤ (l.length : Int) := of_decide_eq_true h0
  refine rgi [] 3 [5, 4, 0, 1] [] [] trivial ?_
  refine xw_ret ?_
  refine an_ret ?_
  exact bs (.tup [(s64 l), .i 4]) (Or.inl <| ⟨(by omega), rfl⟩)
 ·
  replace h0 : ¬ (16 ≤ (l.length : Int)) := of_decide_eq_false h0
  refine xw_skip ?_
  refine an ?_
  refine xw_seq ?_
  refine reg ?_
  refine rki [(2, .i ((l).length : Int)), (4, .i ((l).length : Int))] 6 0 [15, 5, 4, 1] [] [((((m64 l)).length : Nat) : Int) = ((l).length : Int), ((((m64 l)).length : Nat) : Int) = ((l).length : Int), (0 : Int) ≤ 0 ∧ 0 ≤ ((l).length : Int) ∧ ((l).length : Int) = ((l).length : Int) ∧ ((l).length : Int) ≤ ((((m64 l)).length : Nat) : Int)] ⟨(by simp), (by simp), ⟨by omega, by omega, by omega, by first | omega | (simp only [len_st]; omega) | (simp; done) | (simp; omega) | (simp [len_st, len_stx, len_sty, len_zx, len_zy]; omega)⟩, trivial⟩ ?_
  refine sets 15 (x := true) (z := 1) (L := ((((m64 l)).take (((l).length : Int) : Int).toNat).drop (0 : Int).toNat)) (L' := (m64 (l.take (((l.length : Int) : Int).toNat)))) (by kernel_rfl) cut0 ?_
  refine rk [(7, .t)] 3 6 ⟨[(18, .own 0), (5, .i 0), (4, .nils)], [(0, .row 1 47 (((m64 (l.take (((l.length : Int) : Int).toNat)))) ++ ([.u a])))], 1⟩ [(∀ y ∈ ([.u a] : List SV), ElemOk y) ∧ (true = true → 1 ≤ ([.u a] : List SV).length ∧ ∀ x ∈ ((m64 (l.take (((l.length : Int) : Int).toNat))) : List SV), ElemOk x) ∧ (((m64 (l.take (((l.length : Int) : Int).toNat))) : List SV).length + ([.u a] : List SV).length) * 8 ≤ 140737488355328 ∧ ((m64 (l.take (((l.length : Int) : Int).toNat))) : List SV).length + ([.u a] : List SV).length ≤ 4611686018427387904] ⟨⟨(by intro y hy; simp at hy; first | (subst hy; rfl) | (rcases hy with rfl | rfl <;> rfl)), (fun _ => ⟨by first | omega | (simp only [len_st]; omega) | (simp; done) | (simp; omega) | (simp [len_st, len_stx, len_sty, len_zx, len_zy]; omega), elem_map⟩), by first | omega | (simp only [len_st]; omega) | (simp; done) | (simp; omega) | (simp [len_st, len_stx, len_sty, len_zx, len_zy]; omega), by first | omega | (simp only [len_st]; omega) | (simp; done) | (simp; omega) | (simp [len_st, len_stx, len_sty, len_zx, len_zy]; omega)⟩, trivial⟩ ?_
  refine setr 0 (z := 1) (E := 47) (L := (((m64 (l.take (((l.length : Int) : Int).toNat)))) ++ ([.u a]))) (L' := (m64 ((l.take (((l.length : Int) : Int).toNat)) ++ [a]))) (by kernel_rfl) app_one ?_
  refine rki [] 2 9 [5, 4] [0] [] trivial ?_
  refine en ?_
  refine an ?_
  refine xw_ret ?_
  exact bk_ret (.tup [.own 0, .i 0]) (.tup [(s64 ((l.take (((l.length : Int) : Int).toNat)) ++ [a])), .i 0]) (.tup [(s64 (l ++ [a])), .i 0]) (by kernel_rfl) (by kernel_rfl) (wkd [(false = true → false = true), (m64 ((l.take (((l.length : Int) : Int).toNat)) ++ [a])) = (m64 (l ++ [a])), (0 : Int) = 0] (by kernel_rfl) ⟨id, (by first | rfl | (simp; done)), rfl, trivial⟩) (Or.inr <| ⟨(by omega), rfl⟩)

theorem spush_1 (l : List Int) (a : Int) (hp0 : (l.length : Int) * 8 ≤ 140737488355000) (hp1 : U64s l) (hp2 : 16 ≤ (l.length : Int)) : Pub Try.prog 52 [(s64 l), .u a] (fun rv => rv = .tup [(s64 l), .i 4]) := by
  refine (spush l a hp0 hp1).mono ?_
  rintro _ (⟨g0, rfl⟩ | ⟨g0, rfl⟩)
  all_goals first | rfl | (exfalso; first | omega | grind)

theorem spush_2 (l : List Int) (a : Int) (hp0 : (l.length : Int) * 8 ≤ 140737488355000) (hp1 : U64s l) (hp2 : (l.length : Int) < 16) : Pub Try.prog 52 [(s64 l), .u a] (fun rv => rv = .tup [(s64 (l ++ [a])), .i 0]) := by
  refine (spush l a hp0 hp1).mono ?_
  rintro _ (⟨g0, rfl⟩ | ⟨g0, rfl⟩)
  all_goals first | rfl | (exfalso; first | omega | grind)

theorem spop (l : List Int) (hp0 : (l.length : Int) * 8 ≤ 140737488355000) (hp1 : U64s l) : Pub Try.prog 44 [(s64 l)] (fun rv => (((l.length : Int) = 0) ∧ rv = .tup [(s64 l), .i 9]) ∨ ((0 < (l.length : Int)) ∧ rv = .tup [(s64 (l.take (Int.toNat ((l.length : Int) - 1)))), .i 0])) := by
 refine pub_of TT_ok Try.func44 rfl (by decide) (Nat.le_of_ble_eq_true (by kernel_rfl)) (by kernel_rfl) ?_
 refine rgi [] 2 [3, 2, 0] [] [] trivial ?_
 refine rgi [(1, .i ((l).length : Int)), (2, .i (((l).length : Int) - 1))] 4 [4, 3, 2, 0] [] [((((m64 l)).length : Nat) : Int) = ((l).length : Int), IntKind.i64.wrap (((l).length : Int) - 1) = (((l).length : Int) - 1)] ⟨(by simp), i64_eq (by omega) (by omega), trivial⟩ ?_
 refine xw_seq ?_
 refine rgi [(1, .bool (decide ((((l).length : Int) - 1) < 0)))] 2 [9, 4, 3, 2, 0] [] [sm (decide ((((l).length : Int) - 1) < 0))] ⟨rfl, trivial⟩ ?_
 refine xw_cond (b := (decide ((((l).length : Int) - 1) < 0))) (by kernel_rfl) (fun h0 => ?_) (fun h0 => ?_)
 ·
  replace h0 : ((l.length : Int) - 1) < 0 := of_decide_eq_true h0
  refine rg [] 3 ⟨[(3, .i 9), (2, (s64 l)), (4, .i (((l).length : Int) - 1)), (0, (s64 l))], [], 0⟩ [] trivial ?_
  refine xw_ret ?_
  refine an_ret ?_
  exact bs (.tup [(s64 l), .i 9]) (Or.inl <| ⟨(by omega), rfl⟩)
 ·
  replace h0 : ¬ (((l.length : Int) - 1) < 0) := of_decide_eq_false h0
  refine xw_skip ?_
  refine an ?_
  refine xw_seq ?_
  refine reg ?_
  refine rk [] 4 0 ⟨[(14, .sl true 1 ((((m64 l)).take ((((l).length : Int) - 1) : Int).toNat).drop (0 : Int).toNat)), (3, .i 0), (2, .nils)], [], 0⟩ [(0 : Int) ≤ 0 ∧ 0 ≤ (((l).length : Int) - 1) ∧ (((l).length : Int) - 1) = (((l).length : Int) - 1) ∧ (((l).length : Int) - 1) ≤ ((((m64 l)).length : Nat) : Int)] ⟨⟨by omega, by omega, by omega, by first | omega | (simp only [len_st]; omega) | (simp; done) | (simp; omega) | (simp [len_st, len_stx, len_sty, len_zx, len_zy]; omega)⟩, trivial⟩ ?_
  refine sets 14 (x := true) (z := 1) (L := ((((m64 l)).take ((((l).length : Int) - 1) : Int).toNat).drop (0 : Int).toNat)) (L' := (m64 (l.take ((((l.length : Int) - 1) : Int).toNat)))) (by kernel_rfl) cut0 ?_
  refine rki [] 2 4 [3, 2] [] [] trivial ?_
  refine en ?_
  refine an ?_
  refine xw_ret ?_
  exact br (.tup [.sl true 1 (m64 (l.take ((((l.length : Int) - 1) : Int).toNat))), .i 0]) (.tup [(s64 (l.take (Int.toNat ((l.length : Int) - 1)))), .i 0]) (wkd [(false = true → true = true), (m64 (l.take ((((l.length : Int) - 1) : Int).toNat))) = (m64 (l.take (Int.toNat ((l.length : Int) - 1)))), (0 : Int) = 0] (by kernel_rfl) ⟨(fun h => by cases h), (by first | rfl | (simp; done)), rfl, trivial⟩) (Or.inr <| ⟨(by omega), rfl⟩)

theorem spop_1 (l : List Int) (hp0 : (l.length : Int) * 8 ≤ 140737488355000) (hp1 : U64s l) (hp2 : (l.length : Int) = 0) : Pub Try.prog 44 [(s64 l)] (fun rv => rv = .tup [(s64 l), .i 9]) := by
  refine (spop l hp0 hp1).mono ?_
  rintro _ (⟨g0, rfl⟩ | ⟨g0, rfl⟩)
  all_goals first | rfl | (exfalso; first | omega | grind)

theorem spop_2 (l : List Int) (hp0 : (l.length : Int) * 8 ≤ 140737488355000) (hp1 : U64s l) (hp2 : 0 < (l.length : Int)) : Pub Try.prog 44 [(s64 l)] (fun rv => rv = .tup [(s64 (l.take (Int.toNat ((l.length : Int) - 1)))), .i 0]) := by
  refine (spop l hp0 hp1).mono ?_
  rintro _ (⟨g0, rfl⟩ | ⟨g0, rfl⟩)
  all_goals first | rfl | (exfalso; first | omega | grind)

theorem sget (l : List Int) (h : Int) (hp0 : (l.length : Int) * 8 ≤ 140737488355000) (hp1 : U64s l) (hp2 : -9223372036854775808 ≤ h ∧ h ≤ 9223372036854775807) : Pub Try.prog 55 [(s64 l), .i h] (fun rv => ((¬ (0 ≤ h ∧ h < (l.length : Int))) ∧ rv = .tup [.u 0, .i 5]) ∨ ((0 ≤ h ∧ h < (l.length : Int)) ∧ rv = .tup [.u (ix l h), .i 0])) := by
 refine pub_of TT_ok Try.func55 rfl (by decide) (Nat.le_of_ble_eq_true (by kernel_rfl)) (by kernel_rfl) ?_
 refine rgi [] 2 [5, 4, 0, 1] [] [] trivial ?_
 refine xw_seq ?_
 refine xw_seq ?_
 refine reg ?_
 refine rki [(1, .bool (decide (h < 0)))] 3 0 [8, 5, 4, 0, 1] [] [sm (decide (h < 0))] ⟨rfl, trivial⟩ ?_
 refine splitr 8 (x := (decide (h < 0))) (by kernel_rfl) (fun h0 => ?_) (fun h0 => ?_)
 ·
  replace h0 : h < 0 := of_decide_eq_true h0
  refine rki [] 5 3 [13, 5, 4, 0, 1] [] [True] ⟨trivial, trivial⟩ ?_
  refine en ?_
  refine an ?_
  refine ct ?_
  refine rg [] 2 ⟨[(5, .i 5), (4, .u 0), (0, (s64 l)), (1, .i h)], [], 0⟩ [] trivial ?_
  refine xw_ret ?_
  refine an_ret ?_
  exact bs (.tup [.u 0, .i 5]) (Or.inl <| ⟨(by omega), rfl⟩)
 ·
  replace h0 : ¬ (h < 0) := of_decide_eq_false h0
  refine rki [(5, .i ((l).length : Int)), (6, .bool (decide (((l).length : Int) ≤ h)))] 5 3 [13, 5, 4, 0, 1] [] [((((m64 l)).length : Nat) : Int) = ((l).length : Int), sm (decide (((l).length : Int) ≤ h)), True] ⟨(by simp), rfl, trivial, trivial⟩ ?_
  refine en ?_
  refine an ?_
  refine xw_cond (b := (decide (((l).length : Int) ≤ h))) (by kernel_rfl) (fun h1 => ?_) (fun h1 => ?_)
  ·
   replace h1 : (l.length : Int) ≤ h := of_decide_eq_true h1
   refine rg [] 2 ⟨[(5, .i 5), (4, .u 0), (0, (s64 l)), (1, .i h)], [], 0⟩ [] trivial ?_
   refine xw_ret ?_
   refine an_ret ?_
   exact bs (.tup [.u 0, .i 5]) (Or.inl <| ⟨(by omega), rfl⟩)
  ·
   replace h1 : ¬ ((l.length : Int) ≤ h) := of_decide_eq_false h1
   refine xw_skip ?_
   refine an ?_
   refine xw_seq ?_
   refine reg ?_
   refine rk [(2, .u (ix l h))] 3 0 ⟨[(16, .elt (.u (ix l h))), (5, .i 0), (4, .u 0)], [], 0⟩ [(0 : Int) ≤ h ∧ h < ((((m64 l)).length : Nat) : Int) ∧ ((m64 l))[(h : Int).toNat]? = some (.u (ix l h))] ⟨(ix_ok (by omega) (by first | omega | (simp only [len_st]; omega) | (simp; done) | (simp; omega) | (simp [len_st, len_stx, len_sty, len_zx, len_zy]; omega))), trivial⟩ ?_
   have h2 : 0 ≤ (ix l h) ∧ (ix l h) ≤ 18446744073709551615 := U64s.ix (by first | assumption | exact U64s.st (by assumption) _ (by omega)) _
   refine rki [] 3 3 [5, 4] [] [True] ⟨trivial, trivial⟩ ?_
   refine en ?_
   refine an ?_
   refine xw_ret ?_
   exact bs (.tup [.u (ix l h), .i 0]) (Or.inr <| ⟨(by omega), rfl⟩)

theorem sget_1 (l : List Int) (h : Int) (hp0 : (l.length : Int) * 8 ≤ 140737488355000) (hp1 : U64s l) (hp2 : -9223372036854775808 ≤ h ∧ h ≤ 9223372036854775807) (hp3 : ¬ (0 ≤ h ∧ h < (l.length : Int))) : Pub Try.prog 55 [(s64 l), .i h] (fun rv => rv = .tup [.u 0, .i 5]) := by
  refine (sget l h hp0 hp1 hp2).mono ?_
  rintro _ (⟨g0, rfl⟩ | ⟨g0, rfl⟩)
  all_goals first | rfl | (exfalso; first | omega | grind)

theorem sget_2 (l : List Int) (h : Int) (hp0 : (l.length : Int) * 8 ≤ 140737488355000) (hp1 : U64s l) (hp2 : -9223372036854775808 ≤ h ∧ h ≤ 9223372036854775807) (hp3 : 0 ≤ h ∧ h < (l.length : Int)) : Pub Try.prog 55 [(s64 l), .i h] (fun rv => rv = .tup [.u (ix l h), .i 0]) := by
  refine (sget l h hp0 hp1 hp2).mono ?_
  rintro _ (⟨g0, rfl⟩ | ⟨g0, rfl⟩)
  all_goals first | rfl | (exfalso; first | omega | grind)

theorem sreal (l : List Int) (h : Int) (hp0 : (l.length : Int) * 8 ≤ 140737488355000) (hp1 : U64s l) (hp2 : -9223372036854775808 ≤ h ∧ h ≤ 9223372036854775807) : Pub Try.prog 49 [(s64 l), .i h] (fun rv => ((¬ (0 ≤ h ∧ h < (l.length : Int))) ∧ rv = .tup [.u 0, .i 5]) ∨ ((0 ≤ h ∧ h < (l.length : Int)) ∧ ((ix l h) = 0) ∧ rv = .tup [.u 0, .i 6]) ∨ ((0 ≤ h ∧ h < (l.length : Int)) ∧ ((ix l h) ≠ 0) ∧ rv = .tup [.u (ix l h), .i 0])) := by
 refine pub_of TT_ok Try.func49 rfl (by decide) (Nat.le_of_ble_eq_true (by kernel_rfl)) (by kernel_rfl) ?_
 refine rgi [] 2 [5, 4, 0, 1] [] [] trivial ?_
 refine xw_seq ?_
 refine reg ?_
 refine rki [] 2 0 [10, 9, 5, 4] [] [] trivial ?_
 by_cases h0 : ¬ (0 ≤ h ∧ h < (l.length : Int))
 ·
  refine pc (sget_1 l h (by omega) ‹_› ‹_› ‹_›) ?_
  refine rki [] 5 3 [7, 6, 5, 4] [] [] trivial ?_
  refine en ?_
  refine an ?_
  refine xw_seq ?_
  refine rg [(1, .f)] 6 ⟨[(19, .f), (7, .i 5), (6, .u 0), (5, .i 0), (4, .u 0)], [], 0⟩ [(5 == 0) = false, True] ⟨beq_eq_false_iff_ne.2 (by omega), trivial, trivial⟩ ?_
  refine cf ?_
  refine xw_skip ?_
  refine an ?_
  refine rgi [] 4 [5, 4] [] [] trivial ?_
  refine xw_ret ?_
  exact bs (.tup [.u 0, .i 5]) (Or.inl <| ⟨(by omega), rfl⟩)
 ·
  refine pc (sget_2 l h (by omega) ‹_› ‹_› (by omega)) ?_
  refine rki [] 5 3 [7, 6, 5, 4] [] [] trivial ?_
  refine en ?_
  refine an ?_
  refine xw_seq ?_
  refine rg [(1, .t), (4, .bool ((ix l h) == 0))] 6 ⟨[(19, .bool ((ix l h) == 0)), (7, .i 0), (6, .u (ix l h)), (5, .i 0), (4, .u 0)], [], 0⟩ [(0 == 0) = true, sm ((ix l h) == 0), True] ⟨beq_iff_eq.2 (by omega), rfl, trivial, trivial⟩ ?_
  refine xw_cond (b := ((ix l h) == 0)) (by kernel_rfl) (fun h1 => ?_) (fun h1 => ?_)
  ·
   replace h1 : (ix l h) = 0 := eq_of_beq h1
   refine rei [] 1 [7, 6, 5, 4] [] [] trivial ?_
   refine an ?_
   refine rgi [] 4 [5, 4] [] [] trivial ?_
   refine xw_ret ?_
   exact br (.tup [.u (ix l h), .i 6]) (.tup [.u 0, .i 6]) (wkd [((ix l h) : Int) = 0, (6 : Int) = 6] (by kernel_rfl) ⟨(by omega), rfl, trivial⟩) (Or.inr <| Or.inl <| ⟨(by omega), (by omega), rfl⟩)
  ·
   replace h1 : (ix l h) ≠ 0 := ne_of_beq_false h1
   refine xw_skip ?_
   refine an ?_
   refine rgi [] 4 [5, 4] [] [] trivial ?_
   refine xw_ret ?_
   exact bs (.tup [.u (ix l h), .i 0]) (Or.inr <| Or.inr <| ⟨(by omega), (by omega), rfl⟩)

theorem sreal_1 (l : List Int) (h : Int) (hp0 : (l.length : Int) * 8 ≤ 140737488355000) (hp1 : U64s l) (hp2 : -9223372036854775808 ≤ h ∧ h ≤ 9223372036854775807) (hp3 : ¬ (0 ≤ h ∧ h < (l.length : Int))) : Pub Try.prog 49 [(s64 l), .i h] (fun rv => rv = .tup [.u 0, .i 5]) := by
  refine (sreal l h hp0 hp1 hp2).mono ?_
  rintro _ (⟨g0, rfl⟩ | ⟨g0, g1, rfl⟩ | ⟨g0, g1, rfl⟩)
  all_goals first | rfl | (exfalso; first | omega | grind)

theorem sreal_2 (l : List Int) (h : Int) (hp0 : (l.length : Int) * 8 ≤ 140737488355000) (hp1 : U64s l) (hp2 : -9223372036854775808 ≤ h ∧ h ≤ 9223372036854775807) (hp3 : 0 ≤ h ∧ h < (l.length : Int)) (hp4 : (ix l h) = 0) : Pub Try.prog 49 [(s64 l), .i h] (fun rv => rv = .tup [.u 0, .i 6]) := by
  refine (sreal l h hp0 hp1 hp2).mono ?_
  rintro _ (⟨g0, rfl⟩ | ⟨g0, g1, rfl⟩ | ⟨g0, g1, rfl⟩)
  all_goals first | rfl | (exfalso; first | omega | grind)

theorem sreal_3 (l : List Int) (h : Int) (hp0 : (l.length : Int) * 8 ≤ 140737488355000) (hp1 : U64s l) (hp2 : -9223372036854775808 ≤ h ∧ h ≤ 9223372036854775807) (hp3 : 0 ≤ h ∧ h < (l.length : Int)) (hp4 : (ix l h) ≠ 0) : Pub Try.prog 49 [(s64 l), .i h] (fun rv => rv = .tup [.u (ix l h), .i 0]) := by
  refine (sreal l h hp0 hp1 hp2).mono ?_
  rintro _ (⟨g0, rfl⟩ | ⟨g0, g1, rfl⟩ | ⟨g0, g1, rfl⟩)
  all_goals first | rfl | (exfalso; first | omega | grind)

end Go.Proofs.Ytjchmajamlehmaa.X
