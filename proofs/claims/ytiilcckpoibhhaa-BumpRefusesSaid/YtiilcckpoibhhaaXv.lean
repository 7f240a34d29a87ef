/- Contracts of Go functions: what each returns, for every input that its premises name; no memory of the caller is touched. Printed by a program. -/
import Derived.Test.YtiilcckpoibhhaaXu
namespace Go.Proofs.Ytiilcckpoibhhaa.X
open Go Go.RowKit
theorem bumpRow (s : Int) (a : Int) (l : Int) (n : Int) (m : Int) (hp0 : -9223372036854775808 ≤ s ∧ s ≤ 9223372036854775807) (hp1 : -9223372036854775808 ≤ a ∧ a ≤ 9223372036854775807) (hp2 : -9223372036854775808 ≤ l ∧ l ≤ 9223372036854775807) (hp3 : -9223372036854775808 ≤ n ∧ n ≤ 9223372036854775807) (hp4 : -9223372036854775808 ≤ m ∧ m ≤ 9223372036854775807) : Pub Try.prog 3 [.agg [.int .i64 s, .int .i64 a, .int .i64 l], .int .i64 n, .int .i64 m] (fun t => t = .bool true) := by
  refine pub_of TT_ok Try.func3 rfl (by decide) (Nat.le_of_ble_eq_true (by kernel_rfl)) (by kernel_rfl) ?_
  refine xw_seq ?_
  refine reg ?_
  refine runk TT_ok [] 2 0 [6, 3, 1, 2] [0] ⟨[(6, .bool false), (3, .loc 0 0), (1, .int .i64 n), (2, .int .i64 m)], [(0, .cells [.int .i64 s, .int .i64 a, .int .i64 l] 23)], 1⟩ [] (by kernel_rfl) trivial ?_
  refine endr (by kernel_rfl) ?_
  refine an ?_
  refine xw_seq ?_
  refine reg ?_
  refine pcall1 (args := []) (args' := []) (d := (some 14)) (sv := .bool true) (by kernel_rfl) (shown7 ) [] (by kernel_rfl) trivial (by kernel_rfl) ?_
  refine runk TT_ok [] 1 1 [7, 6, 3, 1, 2] [0] ⟨[(7, .bool true), (6, .bool false), (3, .loc 0 0), (1, .int .i64 n), (2, .int .i64 m)], [(0, .cells [.int .i64 s, .int .i64 a, .int .i64 l] 23)], 1⟩ [] (by kernel_rfl) trivial ?_
  refine endr (by kernel_rfl) ?_
  refine an ?_
  refine xw_seq ?_
  refine reg ?_
  refine runk TT_ok [] 2 0 [17, 16, 7, 6, 3, 1, 2] [0] ⟨[(17, .int .i64 n), (16, .agg [.int .i64 s, .int .i64 a, .int .i64 l]), (7, .bool true), (6, .bool false), (3, .loc 0 0), (1, .int .i64 n), (2, .int .i64 m)], [(0, .cells [.int .i64 s, .int .i64 a, .int .i64 l] 23)], 1⟩ [True] (by kernel_rfl) ⟨trivial, trivial⟩ ?_
  by_cases h0 : ((s = 0 ∨ s = 1) ∧ 0 ≤ a ∧ a ≤ l ∧ l ≤ 4096) ∧ (1 ≤ n) ∧ (n ≤ l - a)
  · skip
    refine pcall1 (args := [.agg [.int .i64 s, .int .i64 a, .int .i64 l], .int .i64 n]) (args' := [.agg [.int .i64 s, .int .i64 a, .int .i64 l], .int .i64 n]) (d := (some 18)) (sv := .tup [.agg [.int .i64 s, .int .i64 (a + n), .int .i64 l], .int .u64 ((s + 1) * 4294967296 + a), .int .i64 0]) (by kernel_rfl) (take_1 s a l n (by omega) (by omega) (by omega)) [(s : Int) = s, (a : Int) = a, (l : Int) = l, (n : Int) = n] (by kernel_rfl) ⟨rfl, rfl, rfl, rfl, trivial⟩ (by kernel_rfl) ?_
    refine runk TT_ok [] 8 3 [10, 9, 8, 7, 6, 3, 1, 2] [1, 0] ⟨[(10, .int .i64 0), (9, .int .u64 ((s + 1) * 4294967296 + a)), (8, .loc 1 0), (7, .bool true), (6, .bool false), (3, .loc 0 0), (1, .int .i64 n), (2, .int .i64 m)], [(1, .cells [.int .i64 s, .int .i64 (a + n), .int .i64 l] 23), (0, .cells [.int .i64 s, .int .i64 a, .int .i64 l] 23)], 2⟩ [True] (by kernel_rfl) ⟨trivial, trivial⟩ ?_
    refine endr (by kernel_rfl) ?_
    refine an ?_
    refine xw_seq ?_
    refine xw_seq ?_
    refine reg ?_
    refine runk TT_ok [(1, .bool false)] 2 0 [23, 9, 8, 7, 6, 3, 1, 2] [1, 0] ⟨[(23, .bool false), (9, .int .u64 ((s + 1) * 4294967296 + a)), (8, .loc 1 0), (7, .bool true), (6, .bool false), (3, .loc 0 0), (1, .int .i64 n), (2, .int .i64 m)], [(1, .cells [.int .i64 s, .int .i64 (a + n), .int .i64 l] 23), (0, .cells [.int .i64 s, .int .i64 a, .int .i64 l] 23)], 2⟩ [(0 != 0) = false] (by kernel_rfl) ⟨bne_eq_false_iff_eq.2 (by omega), trivial⟩ ?_
    refine endr (by kernel_rfl) ?_
    refine an ?_
    refine xw_false (by kernel_rfl) ?_
    refine xw_skip ?_
    refine an ?_
    refine xw_seq ?_
    refine reg ?_
    refine runk TT_ok [] 2 0 [36, 35, 9, 8, 7, 6, 3, 1, 2] [1, 0] ⟨[(36, .int .i64 m), (35, .agg [.int .i64 s, .int .i64 (a + n), .int .i64 l]), (9, .int .u64 ((s + 1) * 4294967296 + a)), (8, .loc 1 0), (7, .bool true), (6, .bool false), (3, .loc 0 0), (1, .int .i64 n), (2, .int .i64 m)], [(1, .cells [.int .i64 s, .int .i64 (a + n), .int .i64 l] 23), (0, .cells [.int .i64 s, .int .i64 a, .int .i64 l] 23)], 2⟩ [True] (by kernel_rfl) ⟨trivial, trivial⟩ ?_
    by_cases h1 : (1 ≤ m) ∧ (m ≤ l - (a + n))
    · skip
      refine pcall1 (args := [.agg [.int .i64 s, .int .i64 (a + n), .int .i64 l], .int .i64 m]) (args' := [.agg [.int .i64 s, .int .i64 (a + n), .int .i64 l], .int .i64 m]) (d := (some 37)) (sv := .tup [.agg [.int .i64 s, .int .i64 ((a + n) + m), .int .i64 l], .int .u64 ((s + 1) * 4294967296 + (a + n)), .int .i64 0]) (by kernel_rfl) (take_1 s (a + n) l m (by omega) (by omega) (by omega)) [(s : Int) = s, ((a + n) : Int) = (a + n), (l : Int) = l, (m : Int) = m] (by kernel_rfl) ⟨rfl, rfl, rfl, rfl, trivial⟩ (by kernel_rfl) ?_
      refine runk TT_ok [] 8 3 [13, 12, 11, 9, 8, 7, 6, 3, 1, 2] [2, 1, 0] ⟨[(13, .int .i64 0), (12, .int .u64 ((s + 1) * 4294967296 + (a + n))), (11, .loc 2 0), (9, .int .u64 ((s + 1) * 4294967296 + a)), (8, .loc 1 0), (7, .bool true), (6, .bool false), (3, .loc 0 0), (1, .int .i64 n), (2, .int .i64 m)], [(2, .cells [.int .i64 s, .int .i64 ((a + n) + m), .int .i64 l] 23), (1, .cells [.int .i64 s, .int .i64 (a + n), .int .i64 l] 23), (0, .cells [.int .i64 s, .int .i64 a, .int .i64 l] 23)], 3⟩ [True] (by kernel_rfl) ⟨trivial, trivial⟩ ?_
      refine endr (by kernel_rfl) ?_
      refine an ?_
      refine xw_seq ?_
      refine xw_seq ?_
      refine dregk hmix (by kernel_rfl) ?_
      refine qrun' TT_ok [] 1 0 [(41, .agg [.int .i64 s, .int .i64 (a + n), .int .i64 l]), (13, .int .i64 0), (12, .int .u64 ((s + 1) * 4294967296 + (a + n))), (11, .loc 2 0), (9, .int .u64 ((s + 1) * 4294967296 + a)), (8, .loc 1 0), (7, .bool true), (6, .bool false), (3, .loc 0 0), (1, .int .i64 n), (2, .int .i64 m)] [True] (by kernel_rfl) ⟨trivial, trivial⟩ ?_
      refine pqcall (args := [.agg [.int .i64 s, .int .i64 (a + n), .int .i64 l]]) (args' := [.agg [.int .i64 s, .int .i64 (a + n), .int .i64 l]]) (d := (some 42)) (sv := .int .i64 (l - (a + n))) (by kernel_rfl) (left_1 s (a + n) l (by omega)) [(s : Int) = s, ((a + n) : Int) = (a + n), (l : Int) = l] (by kernel_rfl) ⟨rfl, rfl, rfl, trivial⟩ (by kernel_rfl) ?_
      refine qrun' TT_ok [] 1 2 [(43, .agg [.int .i64 s, .int .i64 a, .int .i64 l]), (42, .int .i64 (l - (a + n))), (41, .agg [.int .i64 s, .int .i64 (a + n), .int .i64 l]), (13, .int .i64 0), (12, .int .u64 ((s + 1) * 4294967296 + (a + n))), (11, .loc 2 0), (9, .int .u64 ((s + 1) * 4294967296 + a)), (8, .loc 1 0), (7, .bool true), (6, .bool false), (3, .loc 0 0), (1, .int .i64 n), (2, .int .i64 m)] [True] (by kernel_rfl) ⟨trivial, trivial⟩ ?_
      refine pqcall (args := [.agg [.int .i64 s, .int .i64 a, .int .i64 l]]) (args' := [.agg [.int .i64 s, .int .i64 a, .int .i64 l]]) (d := (some 44)) (sv := .int .i64 (l - a)) (by kernel_rfl) (left_1 s a l (by omega)) [(s : Int) = s, (a : Int) = a, (l : Int) = l] (by kernel_rfl) ⟨rfl, rfl, rfl, trivial⟩ (by kernel_rfl) ?_
      refine qrun' TT_ok [(5, .int .i64 ((l - a) - n)), (6, .bool false)] 5 4 [(49, .agg [.int .i64 s, .int .i64 (a + n), .int .i64 l]), (48, .bool false), (47, .bool false), (46, .int .i64 ((l - a) - n)), (45, .int .i64 n), (44, .int .i64 (l - a)), (43, .agg [.int .i64 s, .int .i64 a, .int .i64 l]), (42, .int .i64 (l - (a + n))), (41, .agg [.int .i64 s, .int .i64 (a + n), .int .i64 l]), (13, .int .i64 0), (12, .int .u64 ((s + 1) * 4294967296 + (a + n))), (11, .loc 2 0), (9, .int .u64 ((s + 1) * 4294967296 + a)), (8, .loc 1 0), (7, .bool true), (6, .bool false), (3, .loc 0 0), (1, .int .i64 n), (2, .int .i64 m)] [IntKind.i64.wrap ((l - a) - n) = ((l - a) - n), ((l - (a + n)) != ((l - a) - n)) = false, True] (by kernel_rfl) ⟨i64_eq (by omega) (by omega), bne_eq_false_iff_eq.2 (by omega), trivial, trivial⟩ ?_
      refine pqcall (args := [.agg [.int .i64 s, .int .i64 (a + n), .int .i64 l]]) (args' := [.agg [.int .i64 s, .int .i64 (a + n), .int .i64 l]]) (d := (some 50)) (sv := .bool true) (by kernel_rfl) (right_1 s (a + n) l (by omega)) [(s : Int) = s, ((a + n) : Int) = (a + n), (l : Int) = l] (by kernel_rfl) ⟨rfl, rfl, rfl, trivial⟩ (by kernel_rfl) ?_
      refine qrun' TT_ok [] 2 10 [(52, .bool false), (51, .bool false), (50, .bool true), (49, .agg [.int .i64 s, .int .i64 (a + n), .int .i64 l]), (48, .bool false), (47, .bool false), (46, .int .i64 ((l - a) - n)), (45, .int .i64 n), (44, .int .i64 (l - a)), (43, .agg [.int .i64 s, .int .i64 a, .int .i64 l]), (42, .int .i64 (l - (a + n))), (41, .agg [.int .i64 s, .int .i64 (a + n), .int .i64 l]), (13, .int .i64 0), (12, .int .u64 ((s + 1) * 4294967296 + (a + n))), (11, .loc 2 0), (9, .int .u64 ((s + 1) * 4294967296 + a)), (8, .loc 1 0), (7, .bool true), (6, .bool false), (3, .loc 0 0), (1, .int .i64 n), (2, .int .i64 m)] [True] (by kernel_rfl) ⟨trivial, trivial⟩ ?_
      refine qend (by kernel_rfl) ?_
      refine an ?_
      refine xw_false (by kernel_rfl) ?_
      refine xw_skip ?_
      refine an ?_
      refine xw_seq ?_
      refine dregk hmix (by kernel_rfl) ?_
      refine qrun' TT_ok [(3, .bool false), (8, .int .i64 n), (9, .int .i64 (((s + 1) * 4294967296 + a) + n)), (10, .bool true)] 13 0 [(65, .agg [.int .i64 s, .int .i64 ((a + n) + m), .int .i64 l]), (64, .bool true), (63, .bool true), (62, .int .u64 (((s + 1) * 4294967296 + a) + n)), (61, .int .u64 n), (60, .int .i64 n), (59, .int .u64 ((s + 1) * 4294967296 + a)), (58, .int .u64 ((s + 1) * 4294967296 + (a + n))), (57, .bool false), (56, .bool false), (55, .int .i64 0), (54, .bool true), (53, .bool true), (52, .bool false), (51, .bool false), (50, .bool true), (49, .agg [.int .i64 s, .int .i64 (a + n), .int .i64 l]), (48, .bool false), (47, .bool false), (46, .int .i64 ((l - a) - n)), (45, .int .i64 n), (44, .int .i64 (l - a)), (43, .agg [.int .i64 s, .int .i64 a, .int .i64 l]), (42, .int .i64 (l - (a + n))), (41, .agg [.int .i64 s, .int .i64 (a + n), .int .i64 l]), (13, .int .i64 0), (12, .int .u64 ((s + 1) * 4294967296 + (a + n))), (11, .loc 2 0), (9, .int .u64 ((s + 1) * 4294967296 + a)), (8, .loc 1 0), (7, .bool true), (6, .bool false), (3, .loc 0 0), (1, .int .i64 n), (2, .int .i64 m)] [(0 != 0) = false, IntKind.u64.wrap n = n, IntKind.u64.wrap (((s + 1) * 4294967296 + a) + n) = (((s + 1) * 4294967296 + a) + n), (((s + 1) * 4294967296 + (a + n)) == (((s + 1) * 4294967296 + a) + n)) = true, True] (by kernel_rfl) ⟨bne_eq_false_iff_eq.2 (by omega), u64_in (by omega), u64_eq (by omega) (by omega), beq_iff_eq.2 (by omega), trivial, trivial⟩ ?_
      refine pqcall (args := [.agg [.int .i64 s, .int .i64 ((a + n) + m), .int .i64 l]]) (args' := [.agg [.int .i64 s, .int .i64 ((a + n) + m), .int .i64 l]]) (d := (some 66)) (sv := .int .i64 (l - ((a + n) + m))) (by kernel_rfl) (left_1 s ((a + n) + m) l (by omega)) [(s : Int) = s, (((a + n) + m) : Int) = ((a + n) + m), (l : Int) = l] (by kernel_rfl) ⟨rfl, rfl, rfl, trivial⟩ (by kernel_rfl) ?_
      refine qrun' TT_ok [] 1 14 [(67, .agg [.int .i64 s, .int .i64 (a + n), .int .i64 l]), (66, .int .i64 (l - ((a + n) + m))), (65, .agg [.int .i64 s, .int .i64 ((a + n) + m), .int .i64 l]), (64, .bool true), (63, .bool true), (62, .int .u64 (((s + 1) * 4294967296 + a) + n)), (61, .int .u64 n), (60, .int .i64 n), (59, .int .u64 ((s + 1) * 4294967296 + a)), (58, .int .u64 ((s + 1) * 4294967296 + (a + n))), (57, .bool false), (56, .bool false), (55, .int .i64 0), (54, .bool true), (53, .bool true), (52, .bool false), (51, .bool false), (50, .bool true), (49, .agg [.int .i64 s, .int .i64 (a + n), .int .i64 l]), (48, .bool false), (47, .bool false), (46, .int .i64 ((l - a) - n)), (45, .int .i64 n), (44, .int .i64 (l - a)), (43, .agg [.int .i64 s, .int .i64 a, .int .i64 l]), (42, .int .i64 (l - (a + n))), (41, .agg [.int .i64 s, .int .i64 (a + n), .int .i64 l]), (13, .int .i64 0), (12, .int .u64 ((s + 1) * 4294967296 + (a + n))), (11, .loc 2 0), (9, .int .u64 ((s + 1) * 4294967296 + a)), (8, .loc 1 0), (7, .bool true), (6, .bool false), (3, .loc 0 0), (1, .int .i64 n), (2, .int .i64 m)] [True] (by kernel_rfl) ⟨trivial, trivial⟩ ?_
      refine pqcall (args := [.agg [.int .i64 s, .int .i64 (a + n), .int .i64 l]]) (args' := [.agg [.int .i64 s, .int .i64 (a + n), .int .i64 l]]) (d := (some 68)) (sv := .int .i64 (l - (a + n))) (by kernel_rfl) (left_1 s (a + n) l (by omega)) [(s : Int) = s, ((a + n) : Int) = (a + n), (l : Int) = l] (by kernel_rfl) ⟨rfl, rfl, rfl, trivial⟩ (by kernel_rfl) ?_
      refine qrun' TT_ok [(17, .int .i64 ((l - (a + n)) - m)), (18, .bool true)] 7 16 [(6, .bool true), (74, .bool true), (73, .bool true), (72, .bool true), (71, .bool true), (70, .int .i64 ((l - (a + n)) - m)), (69, .int .i64 m), (68, .int .i64 (l - (a + n))), (67, .agg [.int .i64 s, .int .i64 (a + n), .int .i64 l]), (66, .int .i64 (l - ((a + n) + m))), (65, .agg [.int .i64 s, .int .i64 ((a + n) + m), .int .i64 l]), (64, .bool true), (63, .bool true), (62, .int .u64 (((s + 1) * 4294967296 + a) + n)), (61, .int .u64 n), (60, .int .i64 n), (59, .int .u64 ((s + 1) * 4294967296 + a)), (58, .int .u64 ((s + 1) * 4294967296 + (a + n))), (57, .bool false), (56, .bool false), (55, .int .i64 0), (54, .bool true), (53, .bool true), (52, .bool false), (51, .bool false), (50, .bool true), (49, .agg [.int .i64 s, .int .i64 (a + n), .int .i64 l]), (48, .bool false), (47, .bool false), (46, .int .i64 ((l - a) - n)), (45, .int .i64 n), (44, .int .i64 (l - a)), (43, .agg [.int .i64 s, .int .i64 a, .int .i64 l]), (42, .int .i64 (l - (a + n))), (41, .agg [.int .i64 s, .int .i64 (a + n), .int .i64 l]), (13, .int .i64 0), (12, .int .u64 ((s + 1) * 4294967296 + (a + n))), (11, .loc 2 0), (9, .int .u64 ((s + 1) * 4294967296 + a)), (8, .loc 1 0), (7, .bool true), (6, .bool false), (3, .loc 0 0), (1, .int .i64 n), (2, .int .i64 m)] [IntKind.i64.wrap ((l - (a + n)) - m) = ((l - (a + n)) - m), ((l - ((a + n) + m)) == ((l - (a + n)) - m)) = true, True, True, True] (by kernel_rfl) ⟨i64_eq (by omega) (by omega), beq_iff_eq.2 (by omega), trivial, trivial, trivial, trivial⟩ ?_
      refine qend (by kernel_rfl) ?_
      refine an ?_
      refine xw_ret ?_
      exact bk_ret (.bool true) (.bool true) (.bool true) (by kernel_rfl) (by kernel_rfl) (wkd [true = true] (by kernel_rfl) ⟨rfl, trivial⟩) rfl
    · skip
      by_cases h2 : (1 ≤ m) ∧ (l - (a + n) < m)
      · skip
        refine pcall1 (args := [.agg [.int .i64 s, .int .i64 (a + n), .int .i64 l], .int .i64 m]) (args' := [.agg [.int .i64 s, .int .i64 (a + n), .int .i64 l], .int .i64 m]) (d := (some 37)) (sv := .tup [.agg [.int .i64 s, .int .i64 (a + n), .int .i64 l], .int .u64 0, .int .i64 4]) (by kernel_rfl) (take_2 s (a + n) l m (by omega) (by omega) (by omega)) [(s : Int) = s, ((a + n) : Int) = (a + n), (l : Int) = l, (m : Int) = m] (by kernel_rfl) ⟨rfl, rfl, rfl, rfl, trivial⟩ (by kernel_rfl) ?_
        refine runk TT_ok [] 8 3 [13, 12, 11, 9, 8, 7, 6, 3, 1, 2] [2, 1, 0] ⟨[(13, .int .i64 4), (12, .int .u64 0), (11, .loc 2 0), (9, .int .u64 ((s + 1) * 4294967296 + a)), (8, .loc 1 0), (7, .bool true), (6, .bool false), (3, .loc 0 0), (1, .int .i64 n), (2, .int .i64 m)], [(2, .cells [.int .i64 s, .int .i64 (a + n), .int .i64 l] 23), (1, .cells [.int .i64 s, .int .i64 (a + n), .int .i64 l] 23), (0, .cells [.int .i64 s, .int .i64 a, .int .i64 l] 23)], 3⟩ [True] (by kernel_rfl) ⟨trivial, trivial⟩ ?_
        refine endr (by kernel_rfl) ?_
        refine an ?_
        refine xw_seq ?_
        refine xw_seq ?_
        refine dregk hmix (by kernel_rfl) ?_
        refine qrun' TT_ok [] 1 0 [(41, .agg [.int .i64 s, .int .i64 (a + n), .int .i64 l]), (13, .int .i64 4), (12, .int .u64 0), (11, .loc 2 0), (9, .int .u64 ((s + 1) * 4294967296 + a)), (8, .loc 1 0), (7, .bool true), (6, .bool false), (3, .loc 0 0), (1, .int .i64 n), (2, .int .i64 m)] [True] (by kernel_rfl) ⟨trivial, trivial⟩ ?_
        refine pqcall (args := [.agg [.int .i64 s, .int .i64 (a + n), .int .i64 l]]) (args' := [.agg [.int .i64 s, .int .i64 (a + n), .int .i64 l]]) (d := (some 42)) (sv := .int .i64 (l - (a + n))) (by kernel_rfl) (left_1 s (a + n) l (by omega)) [(s : Int) = s, ((a + n) : Int) = (a + n), (l : Int) = l] (by kernel_rfl) ⟨rfl, rfl, rfl, trivial⟩ (by kernel_rfl) ?_
        refine qrun' TT_ok [] 1 2 [(43, .agg [.int .i64 s, .int .i64 a, .int .i64 l]), (42, .int .i64 (l - (a + n))), (41, .agg [.int .i64 s, .int .i64 (a + n), .int .i64 l]), (13, .int .i64 4), (12, .int .u64 0), (11, .loc 2 0), (9, .int .u64 ((s + 1) * 4294967296 + a)), (8, .loc 1 0), (7, .bool true), (6, .bool false), (3, .loc 0 0), (1, .int .i64 n), (2, .int .i64 m)] [True] (by kernel_rfl) ⟨trivial, trivial⟩ ?_
        refine pqcall (args := [.agg [.int .i64 s, .int .i64 a, .int .i64 l]]) (args' := [.agg [.int .i64 s, .int .i64 a, .int .i64 l]]) (d := (some 44)) (sv := .int .i64 (l - a)) (by kernel_rfl) (left_1 s a l (by omega)) [(s : Int) = s, (a : Int) = a, (l : Int) = l] (by kernel_rfl) ⟨rfl, rfl, rfl, trivial⟩ (by kernel_rfl) ?_
        refine qrun' TT_ok [(5, .int .i64 ((l - a) - n)), (6, .bool false)] 5 4 [(49, .agg [.int .i64 s, .int .i64 (a + n), .int .i64 l]), (48, .bool false), (47, .bool false), (46, .int .i64 ((l - a) - n)), (45, .int .i64 n), (44, .int .i64 (l - a)), (43, .agg [.int .i64 s, .int .i64 a, .int .i64 l]), (42, .int .i64 (l - (a + n))), (41, .agg [.int .i64 s, .int .i64 (a + n), .int .i64 l]), (13, .int .i64 4), (12, .int .u64 0), (11, .loc 2 0), (9, .int .u64 ((s + 1) * 4294967296 + a)), (8, .loc 1 0), (7, .bool true), (6, .bool false), (3, .loc 0 0), (1, .int .i64 n), (2, .int .i64 m)] [IntKind.i64.wrap ((l - a) - n) = ((l - a) - n), ((l - (a + n)) != ((l - a) - n)) = false, True] (by kernel_rfl) ⟨i64_eq (by omega) (by omega), bne_eq_false_iff_eq.2 (by omega), trivial, trivial⟩ ?_
        refine pqcall (args := [.agg [.int .i64 s, .int .i64 (a + n), .int .i64 l]]) (args' := [.agg [.int .i64 s, .int .i64 (a + n), .int .i64 l]]) (d := (some 50)) (sv := .bool true) (by kernel_rfl) (right_1 s (a + n) l (by omega)) [(s : Int) = s, ((a + n) : Int) = (a + n), (l : Int) = l] (by kernel_rfl) ⟨rfl, rfl, rfl, trivial⟩ (by kernel_rfl) ?_
        refine qrun' TT_ok [] 2 10 [(52, .bool false), (51, .bool false), (50, .bool true), (49, .agg [.int .i64 s, .int .i64 (a + n), .int .i64 l]), (48, .bool false), (47, .bool false), (46, .int .i64 ((l - a) - n)), (45, .int .i64 n), (44, .int .i64 (l - a)), (43, .agg [.int .i64 s, .int .i64 a, .int .i64 l]), (42, .int .i64 (l - (a + n))), (41, .agg [.int .i64 s, .int .i64 (a + n), .int .i64 l]), (13, .int .i64 4), (12, .int .u64 0), (11, .loc 2 0), (9, .int .u64 ((s + 1) * 4294967296 + a)), (8, .loc 1 0), (7, .bool true), (6, .bool false), (3, .loc 0 0), (1, .int .i64 n), (2, .int .i64 m)] [True] (by kernel_rfl) ⟨trivial, trivial⟩ ?_
        refine qend (by kernel_rfl) ?_
        refine an ?_
        refine xw_false (by kernel_rfl) ?_
        refine xw_skip ?_
        refine an ?_
        refine xw_seq ?_
        refine dregk hmix (by kernel_rfl) ?_
        refine qrun' TT_ok [(3, .bool true)] 23 0 [(6, .bool true), (74, .bool true), (73, .bool true), (72, .tup []), (71, .tup []), (70, .tup []), (69, .tup []), (68, .tup []), (67, .tup []), (66, .tup []), (65, .tup []), (64, .tup []), (63, .tup []), (62, .tup []), (61, .tup []), (60, .tup []), (59, .tup []), (58, .tup []), (57, .bool true), (56, .bool true), (55, .int .i64 4), (54, .bool true), (53, .bool true), (52, .bool false), (51, .bool false), (50, .bool true), (49, .agg [.int .i64 s, .int .i64 (a + n), .int .i64 l]), (48, .bool false), (47, .bool false), (46, .int .i64 ((l - a) - n)), (45, .int .i64 n), (44, .int .i64 (l - a)), (43, .agg [.int .i64 s, .int .i64 a, .int .i64 l]), (42, .int .i64 (l - (a + n))), (41, .agg [.int .i64 s, .int .i64 (a + n), .int .i64 l]), (13, .int .i64 4), (12, .int .u64 0), (11, .loc 2 0), (9, .int .u64 ((s + 1) * 4294967296 + a)), (8, .loc 1 0), (7, .bool true), (6, .bool false), (3, .loc 0 0), (1, .int .i64 n), (2, .int .i64 m)] [(4 != 0) = true, True, True] (by kernel_rfl) ⟨bne_iff_ne.2 (by omega), trivial, trivial, trivial⟩ ?_
        refine qend (by kernel_rfl) ?_
        refine an ?_
        refine xw_ret ?_
        exact bk_ret (.bool true) (.bool true) (.bool true) (by kernel_rfl) (by kernel_rfl) (wkd [true = true] (by kernel_rfl) ⟨rfl, trivial⟩) rfl
      · skip
        refine pcall1 (args := [.agg [.int .i64 s, .int .i64 (a + n), .int .i64 l], .int .i64 m]) (args' := [.agg [.int .i64 s, .int .i64 (a + n), .int .i64 l], .int .i64 m]) (d := (some 37)) (sv := .tup [.agg [.int .i64 s, .int .i64 (a + n), .int .i64 l], .int .u64 0, .int .i64 1]) (by kernel_rfl) (take_3 s (a + n) l m (by omega)) [(s : Int) = s, ((a + n) : Int) = (a + n), (l : Int) = l, (m : Int) = m] (by kernel_rfl) ⟨rfl, rfl, rfl, rfl, trivial⟩ (by kernel_rfl) ?_
        refine runk TT_ok [] 8 3 [13, 12, 11, 9, 8, 7, 6, 3, 1, 2] [2, 1, 0] ⟨[(13, .int .i64 1), (12, .int .u64 0), (11, .loc 2 0), (9, .int .u64 ((s + 1) * 4294967296 + a)), (8, .loc 1 0), (7, .bool true), (6, .bool false), (3, .loc 0 0), (1, .int .i64 n), (2, .int .i64 m)], [(2, .cells [.int .i64 s, .int .i64 (a + n), .int .i64 l] 23), (1, .cells [.int .i64 s, .int .i64 (a + n), .int .i64 l] 23), (0, .cells [.int .i64 s, .int .i64 a, .int .i64 l] 23)], 3⟩ [True] (by kernel_rfl) ⟨trivial, trivial⟩ ?_
        refine endr (by kernel_rfl) ?_
        refine an ?_
        refine xw_seq ?_
        refine xw_seq ?_
        refine dregk hmix (by kernel_rfl) ?_
        refine qrun' TT_ok [] 1 0 [(41, .agg [.int .i64 s, .int .i64 (a + n), .int .i64 l]), (13, .int .i64 1), (12, .int .u64 0), (11, .loc 2 0), (9, .int .u64 ((s + 1) * 4294967296 + a)), (8, .loc 1 0), (7, .bool true), (6, .bool false), (3, .loc 0 0), (1, .int .i64 n), (2, .int .i64 m)] [True] (by kernel_rfl) ⟨trivial, trivial⟩ ?_
        refine pqcall (args := [.agg [.int .i64 s, .int .i64 (a + n), .int .i64 l]]) (args' := [.agg [.int .i64 s, .int .i64 (a + n), .int .i64 l]]) (d := (some 42)) (sv := .int .i64 (l - (a + n))) (by kernel_rfl) (left_1 s (a + n) l (by omega)) [(s : Int) = s, ((a + n) : Int) = (a + n), (l : Int) = l] (by kernel_rfl) ⟨rfl, rfl, rfl, trivial⟩ (by kernel_rfl) ?_
        refine qrun' TT_ok [] 1 2 [(43, .agg [.int .i64 s, .int .i64 a, .int .i64 l]), (42, .int .i64 (l - (a + n))), (41, .agg [.int .i64 s, .int .i64 (a + n), .int .i64 l]), (13, .int .i64 1), (12, .int .u64 0), (11, .loc 2 0), (9, .int .u64 ((s + 1) * 4294967296 + a)), (8, .loc 1 0), (7, .bool true), (6, .bool false), (3, .loc 0 0), (1, .int .i64 n), (2, .int .i64 m)] [True] (by kernel_rfl) ⟨trivial, trivial⟩ ?_
        refine pqcall (args := [.agg [.int .i64 s, .int .i64 a, .int .i64 l]]) (args' := [.agg [.int .i64 s, .int .i64 a, .int .i64 l]]) (d := (some 44)) (sv := .int .i64 (l - a)) (by kernel_rfl) (left_1 s a l (by omega)) [(s : Int) = s, (a : Int) = a, (l : Int) = l] (by kernel_rfl) ⟨rfl, rfl, rfl, trivial⟩ (by kernel_rfl) ?_
        refine qrun' TT_ok [(5, .int .i64 ((l - a) - n)), (6, .bool false)] 5 4 [(49, .agg [.int .i64 s, .int .i64 (a + n), .int .i64 l]), (48, .bool false), (47, .bool false), (46, .int .i64 ((l - a) - n)), (45, .int .i64 n), (44, .int .i64 (l - a)), (43, .agg [.int .i64 s, .int .i64 a, .int .i64 l]), (42, .int .i64 (l - (a + n))), (41, .agg [.int .i64 s, .int .i64 (a + n), .int .i64 l]), (13, .int .i64 1), (12, .int .u64 0), (11, .loc 2 0), (9, .int .u64 ((s + 1) * 4294967296 + a)), (8, .loc 1 0), (7, .bool true), (6, .bool false), (3, .loc 0 0), (1, .int .i64 n), (2, .int .i64 m)] [IntKind.i64.wrap ((l - a) - n) = ((l - a) - n), ((l - (a + n)) != ((l - a) - n)) = false, True] (by kernel_rfl) ⟨i64_eq (by omega) (by omega), bne_eq_false_iff_eq.2 (by omega), trivial, trivial⟩ ?_
        refine pqcall (args := [.agg [.int .i64 s, .int .i64 (a + n), .int .i64 l]]) (args' := [.agg [.int .i64 s, .int .i64 (a + n), .int .i64 l]]) (d := (some 50)) (sv := .bool true) (by kernel_rfl) (right_1 s (a + n) l (by omega)) [(s : Int) = s, ((a + n) : Int) = (a + n), (l : Int) = l] (by kernel_rfl) ⟨rfl, rfl, rfl, trivial⟩ (by kernel_rfl) ?_
        refine qrun' TT_ok [] 2 10 [(52, .bool false), (51, .bool false), (50, .bool true), (49, .agg [.int .i64 s, .int .i64 (a + n), .int .i64 l]), (48, .bool false), (47, .bool false), (46, .int .i64 ((l - a) - n)), (45, .int .i64 n), (44, .int .i64 (l - a)), (43, .agg [.int .i64 s, .int .i64 a, .int .i64 l]), (42, .int .i64 (l - (a + n))), (41, .agg [.int .i64 s, .int .i64 (a + n), .int .i64 l]), (13, .int .i64 1), (12, .int .u64 0), (11, .loc 2 0), (9, .int .u64 ((s + 1) * 4294967296 + a)), (8, .loc 1 0), (7, .bool true), (6, .bool false), (3, .loc 0 0), (1, .int .i64 n), (2, .int .i64 m)] [True] (by kernel_rfl) ⟨trivial, trivial⟩ ?_
        refine qend (by kernel_rfl) ?_
        refine an ?_
        refine xw_false (by kernel_rfl) ?_
        refine xw_skip ?_
        refine an ?_
        refine xw_seq ?_
        refine dregk hmix (by kernel_rfl) ?_
        refine qrun' TT_ok [(3, .bool true)] 23 0 [(6, .bool true), (74, .bool true), (73, .bool true), (72, .tup []), (71, .tup []), (70, .tup []), (69, .tup []), (68, .tup []), (67, .tup []), (66, .tup []), (65, .tup []), (64, .tup []), (63, .tup []), (62, .tup []), (61, .tup []), (60, .tup []), (59, .tup []), (58, .tup []), (57, .bool true), (56, .bool true), (55, .int .i64 1), (54, .bool true), (53, .bool true), (52, .bool false), (51, .bool false), (50, .bool true), (49, .agg [.int .i64 s, .int .i64 (a + n), .int .i64 l]), (48, .bool false), (47, .bool false), (46, .int .i64 ((l - a) - n)), (45, .int .i64 n), (44, .int .i64 (l - a)), (43, .agg [.int .i64 s, .int .i64 a, .int .i64 l]), (42, .int .i64 (l - (a + n))), (41, .agg [.int .i64 s, .int .i64 (a + n), .int .i64 l]), (13, .int .i64 1), (12, .int .u64 0), (11, .loc 2 0), (9, .int .u64 ((s + 1) * 4294967296 + a)), (8, .loc 1 0), (7, .bool true), (6, .bool false), (3, .loc 0 0), (1, .int .i64 n), (2, .int .i64 m)] [(1 != 0) = true, True, True] (by kernel_rfl) ⟨bne_iff_ne.2 (by omega), trivial, trivial, trivial⟩ ?_
        refine qend (by kernel_rfl) ?_
        refine an ?_
        refine xw_ret ?_
        exact bk_ret (.bool true) (.bool true) (.bool true) (by kernel_rfl) (by kernel_rfl) (wkd [true = true] (by kernel_rfl) ⟨rfl, trivial⟩) rfl
  · skip
    by_cases h1 : ((s = 0 ∨ s = 1) ∧ 0 ≤ a ∧ a ≤ l ∧ l ≤ 4096) ∧ (1 ≤ n) ∧ (l - a < n)
    · skip
      refine pcall1 (args := [.agg [.int .i64 s, .int .i64 a, .int .i64 l], .int .i64 n]) (args' := [.agg [.int .i64 s, .int .i64 a, .int .i64 l], .int .i64 n]) (d := (some 18)) (sv := .tup [.agg [.int .i64 s, .int .i64 a, .int .i64 l], .int .u64 0, .int .i64 4]) (by kernel_rfl) (take_2 s a l n (by omega) (by omega) (by omega)) [(s : Int) = s, (a : Int) = a, (l : Int) = l, (n : Int) = n] (by kernel_rfl) ⟨rfl, rfl, rfl, rfl, trivial⟩ (by kernel_rfl) ?_
      refine runk TT_ok [] 8 3 [10, 9, 8, 7, 6, 3, 1, 2] [1, 0] ⟨[(10, .int .i64 4), (9, .int .u64 0), (8, .loc 1 0), (7, .bool true), (6, .bool false), (3, .loc 0 0), (1, .int .i64 n), (2, .int .i64 m)], [(1, .cells [.int .i64 s, .int .i64 a, .int .i64 l] 23), (0, .cells [.int .i64 s, .int .i64 a, .int .i64 l] 23)], 2⟩ [True] (by kernel_rfl) ⟨trivial, trivial⟩ ?_
      refine endr (by kernel_rfl) ?_
      refine an ?_
      refine xw_seq ?_
      refine xw_seq ?_
      refine reg ?_
      refine runk TT_ok [(1, .bool true)] 2 0 [23, 9, 8, 7, 6, 3, 1, 2] [1, 0] ⟨[(23, .bool true), (9, .int .u64 0), (8, .loc 1 0), (7, .bool true), (6, .bool false), (3, .loc 0 0), (1, .int .i64 n), (2, .int .i64 m)], [(1, .cells [.int .i64 s, .int .i64 a, .int .i64 l] 23), (0, .cells [.int .i64 s, .int .i64 a, .int .i64 l] 23)], 2⟩ [(4 != 0) = true] (by kernel_rfl) ⟨bne_iff_ne.2 (by omega), trivial⟩ ?_
      refine endr (by kernel_rfl) ?_
      refine an ?_
      refine xw_true (by kernel_rfl) ?_
      refine xw_seq ?_
      refine reg ?_
      refine runk TT_ok [(4, .bool true), (8, .bool true)] 11 0 [6, 9, 8, 7, 3, 1, 2] [1, 0] ⟨[(6, .bool true), (9, .int .u64 0), (8, .loc 1 0), (7, .bool true), (3, .loc 0 0), (1, .int .i64 n), (2, .int .i64 m)], [(1, .cells [.int .i64 s, .int .i64 a, .int .i64 l] 23), (0, .cells [.int .i64 s, .int .i64 a, .int .i64 l] 23)], 2⟩ [True, True, ((s == s) && ((a == a) && ((l == l) && true))) = true, True, (0 == 0) = true, True] (by kernel_rfl) ⟨trivial, trivial, (by simp <;> omega), trivial, beq_iff_eq.2 (by omega), trivial, trivial⟩ ?_
      refine endr (by kernel_rfl) ?_
      refine an ?_
      refine xw_ret ?_
      refine an_ret ?_
      exact bk_ret (.bool true) (.bool true) (.bool true) (by kernel_rfl) (by kernel_rfl) (wkd [true = true] (by kernel_rfl) ⟨rfl, trivial⟩) rfl
    · skip
      refine pcall1 (args := [.agg [.int .i64 s, .int .i64 a, .int .i64 l], .int .i64 n]) (args' := [.agg [.int .i64 s, .int .i64 a, .int .i64 l], .int .i64 n]) (d := (some 18)) (sv := .tup [.agg [.int .i64 s, .int .i64 a, .int .i64 l], .int .u64 0, .int .i64 1]) (by kernel_rfl) (take_3 s a l n (by omega)) [(s : Int) = s, (a : Int) = a, (l : Int) = l, (n : Int) = n] (by kernel_rfl) ⟨rfl, rfl, rfl, rfl, trivial⟩ (by kernel_rfl) ?_
      refine runk TT_ok [] 8 3 [10, 9, 8, 7, 6, 3, 1, 2] [1, 0] ⟨[(10, .int .i64 1), (9, .int .u64 0), (8, .loc 1 0), (7, .bool true), (6, .bool false), (3, .loc 0 0), (1, .int .i64 n), (2, .int .i64 m)], [(1, .cells [.int .i64 s, .int .i64 a, .int .i64 l] 23), (0, .cells [.int .i64 s, .int .i64 a, .int .i64 l] 23)], 2⟩ [True] (by kernel_rfl) ⟨trivial, trivial⟩ ?_
      refine endr (by kernel_rfl) ?_
      refine an ?_
      refine xw_seq ?_
      refine xw_seq ?_
      refine reg ?_
      refine runk TT_ok [(1, .bool true)] 2 0 [23, 9, 8, 7, 6, 3, 1, 2] [1, 0] ⟨[(23, .bool true), (9, .int .u64 0), (8, .loc 1 0), (7, .bool true), (6, .bool false), (3, .loc 0 0), (1, .int .i64 n), (2, .int .i64 m)], [(1, .cells [.int .i64 s, .int .i64 a, .int .i64 l] 23), (0, .cells [.int .i64 s, .int .i64 a, .int .i64 l] 23)], 2⟩ [(1 != 0) = true] (by kernel_rfl) ⟨bne_iff_ne.2 (by omega), trivial⟩ ?_
      refine endr (by kernel_rfl) ?_
      refine an ?_
      refine xw_true (by kernel_rfl) ?_
      refine xw_seq ?_
      refine reg ?_
      refine runk TT_ok [(4, .bool true), (8, .bool true)] 11 0 [6, 9, 8, 7, 3, 1, 2] [1, 0] ⟨[(6, .bool true), (9, .int .u64 0), (8, .loc 1 0), (7, .bool true), (3, .loc 0 0), (1, .int .i64 n), (2, .int .i64 m)], [(1, .cells [.int .i64 s, .int .i64 a, .int .i64 l] 23), (0, .cells [.int .i64 s, .int .i64 a, .int .i64 l] 23)], 2⟩ [True, True, ((s == s) && ((a == a) && ((l == l) && true))) = true, True, (0 == 0) = true, True] (by kernel_rfl) ⟨trivial, trivial, (by simp <;> omega), trivial, beq_iff_eq.2 (by omega), trivial, trivial⟩ ?_
      refine endr (by kernel_rfl) ?_
      refine an ?_
      refine xw_ret ?_
      refine an_ret ?_
      exact bk_ret (.bool true) (.bool true) (.bool true) (by kernel_rfl) (by kernel_rfl) (wkd [true = true] (by kernel_rfl) ⟨rfl, trivial⟩) rfl

theorem bumpRefuses (s : Int) (a : Int) (l : Int) (n : Int) (hp0 : -9223372036854775808 ≤ s ∧ s ≤ 9223372036854775807) (hp1 : -9223372036854775808 ≤ a ∧ a ≤ 9223372036854775807) (hp2 : -9223372036854775808 ≤ l ∧ l ≤ 9223372036854775807) (hp3 : -9223372036854775808 ≤ n ∧ n ≤ 9223372036854775807) : Pub Try.prog 5 [.agg [.int .i64 s, .int .i64 a, .int .i64 l], .int .i64 n] (fun t => t = .bool true) := by
  refine pub_of TT_ok Try.func5 rfl (by decide) (Nat.le_of_ble_eq_true (by kernel_rfl)) (by kernel_rfl) ?_
  refine xw_seq ?_
  refine reg ?_
  refine runk TT_ok [] 2 0 [4, 2, 1] [0] ⟨[(4, .bool false), (2, .loc 0 0), (1, .int .i64 n)], [(0, .cells [.int .i64 s, .int .i64 a, .int .i64 l] 23)], 1⟩ [] (by kernel_rfl) trivial ?_
  refine endr (by kernel_rfl) ?_
  refine an ?_
  refine xw_seq ?_
  refine reg ?_
  refine pcall1 (args := []) (args' := []) (d := (some 9)) (sv := .bool true) (by kernel_rfl) (shown7 ) [] (by kernel_rfl) trivial (by kernel_rfl) ?_
  refine runk TT_ok [] 1 1 [5, 4, 2, 1] [0] ⟨[(5, .bool true), (4, .bool false), (2, .loc 0 0), (1, .int .i64 n)], [(0, .cells [.int .i64 s, .int .i64 a, .int .i64 l] 23)], 1⟩ [] (by kernel_rfl) trivial ?_
  refine endr (by kernel_rfl) ?_
  refine an ?_
  refine xw_seq ?_
  refine reg ?_
  refine runk TT_ok [] 2 0 [12, 11, 5, 4, 2, 1] [0] ⟨[(12, .int .i64 n), (11, .agg [.int .i64 s, .int .i64 a, .int .i64 l]), (5, .bool true), (4, .bool false), (2, .loc 0 0), (1, .int .i64 n)], [(0, .cells [.int .i64 s, .int .i64 a, .int .i64 l] 23)], 1⟩ [True] (by kernel_rfl) ⟨trivial, trivial⟩ ?_
  by_cases h0 : ((s = 0 ∨ s = 1) ∧ 0 ≤ a ∧ a ≤ l ∧ l ≤ 4096) ∧ (1 ≤ n) ∧ (n ≤ l - a)
  · skip
    refine pcall1 (args := [.agg [.int .i64 s, .int .i64 a, .int .i64 l], .int .i64 n]) (args' := [.agg [.int .i64 s, .int .i64 a, .int .i64 l], .int .i64 n]) (d := (some 13)) (sv := .tup [.agg [.int .i64 s, .int .i64 (a + n), .int .i64 l], .int .u64 ((s + 1) * 4294967296 + a), .int .i64 0]) (by kernel_rfl) (take_1 s a l n (by omega) (by omega) (by omega)) [(s : Int) = s, (a : Int) = a, (l : Int) = l, (n : Int) = n] (by kernel_rfl) ⟨rfl, rfl, rfl, rfl, trivial⟩ (by kernel_rfl) ?_
    refine runk TT_ok [] 8 3 [8, 7, 6, 5, 4, 2, 1] [1, 0] ⟨[(8, .int .i64 0), (7, .int .u64 ((s + 1) * 4294967296 + a)), (6, .loc 1 0), (5, .bool true), (4, .bool false), (2, .loc 0 0), (1, .int .i64 n)], [(1, .cells [.int .i64 s, .int .i64 (a + n), .int .i64 l] 23), (0, .cells [.int .i64 s, .int .i64 a, .int .i64 l] 23)], 2⟩ [True] (by kernel_rfl) ⟨trivial, trivial⟩ ?_
    refine endr (by kernel_rfl) ?_
    refine an ?_
    refine xw_seq ?_
    refine xw_seq ?_
    refine reg ?_
    refine runk TT_ok [(1, .bool true)] 2 0 [18, 8, 7, 6, 5, 4, 2, 1] [1, 0] ⟨[(18, .bool true), (8, .int .i64 0), (7, .int .u64 ((s + 1) * 4294967296 + a)), (6, .loc 1 0), (5, .bool true), (4, .bool false), (2, .loc 0 0), (1, .int .i64 n)], [(1, .cells [.int .i64 s, .int .i64 (a + n), .int .i64 l] 23), (0, .cells [.int .i64 s, .int .i64 a, .int .i64 l] 23)], 2⟩ [(0 == 0) = true] (by kernel_rfl) ⟨beq_iff_eq.2 (by omega), trivial⟩ ?_
    refine endr (by kernel_rfl) ?_
    refine an ?_
    refine xw_true (by kernel_rfl) ?_
    refine xw_seq ?_
    refine reg ?_
    refine runk TT_ok [(3, .bool true)] 8 0 [26, 25, 24, 8, 7, 6, 5, 4, 2, 1] [1, 0] ⟨[(26, .agg [.int .i64 s, .int .i64 a, .int .i64 l]), (25, .int .i64 n), (24, .bool true), (8, .int .i64 0), (7, .int .u64 ((s + 1) * 4294967296 + a)), (6, .loc 1 0), (5, .bool true), (4, .bool false), (2, .loc 0 0), (1, .int .i64 n)], [(1, .cells [.int .i64 s, .int .i64 (a + n), .int .i64 l] 23), (0, .cells [.int .i64 s, .int .i64 a, .int .i64 l] 23)], 2⟩ [(decide (1 ≤ n)) = true, True, True] (by kernel_rfl) ⟨decide_eq_true (by omega), trivial, trivial, trivial⟩ ?_
    refine pcall1 (args := [.agg [.int .i64 s, .int .i64 a, .int .i64 l]]) (args' := [.agg [.int .i64 s, .int .i64 a, .int .i64 l]]) (d := (some 27)) (sv := .int .i64 (l - a)) (by kernel_rfl) (left_1 s a l (by omega)) [(s : Int) = s, (a : Int) = a, (l : Int) = l] (by kernel_rfl) ⟨rfl, rfl, rfl, trivial⟩ (by kernel_rfl) ?_
    refine runk TT_ok [(9, .bool true)] 4 9 [31, 30, 8, 7, 6, 5, 4, 2, 1] [1, 0] ⟨[(31, .agg [.int .i64 s, .int .i64 a, .int .i64 l]), (30, .bool true), (8, .int .i64 0), (7, .int .u64 ((s + 1) * 4294967296 + a)), (6, .loc 1 0), (5, .bool true), (4, .bool false), (2, .loc 0 0), (1, .int .i64 n)], [(1, .cells [.int .i64 s, .int .i64 (a + n), .int .i64 l] 23), (0, .cells [.int .i64 s, .int .i64 a, .int .i64 l] 23)], 2⟩ [(decide (n ≤ (l - a))) = true, True, True] (by kernel_rfl) ⟨decide_eq_true (by omega), trivial, trivial, trivial⟩ ?_
    refine pcall1 (args := [.agg [.int .i64 s, .int .i64 a, .int .i64 l]]) (args' := [.agg [.int .i64 s, .int .i64 a, .int .i64 l]]) (d := (some 32)) (sv := .bool true) (by kernel_rfl) (right_1 s a l (by omega)) [(s : Int) = s, (a : Int) = a, (l : Int) = l] (by kernel_rfl) ⟨rfl, rfl, rfl, trivial⟩ (by kernel_rfl) ?_
    refine runk TT_ok [] 2 14 [4, 8, 7, 6, 5, 2, 1] [1, 0] ⟨[(4, .bool true), (8, .int .i64 0), (7, .int .u64 ((s + 1) * 4294967296 + a)), (6, .loc 1 0), (5, .bool true), (2, .loc 0 0), (1, .int .i64 n)], [(1, .cells [.int .i64 s, .int .i64 (a + n), .int .i64 l] 23), (0, .cells [.int .i64 s, .int .i64 a, .int .i64 l] 23)], 2⟩ [True] (by kernel_rfl) ⟨trivial, trivial⟩ ?_
    refine endr (by kernel_rfl) ?_
    refine an ?_
    refine xw_ret ?_
    refine an_ret ?_
    exact bk_ret (.bool true) (.bool true) (.bool true) (by kernel_rfl) (by kernel_rfl) (wkd [true = true] (by kernel_rfl) ⟨rfl, trivial⟩) rfl
  · skip
    by_cases h1 : ((s = 0 ∨ s = 1) ∧ 0 ≤ a ∧ a ≤ l ∧ l ≤ 4096) ∧ (1 ≤ n) ∧ (l - a < n)
    · skip
      refine pcall1 (args := [.agg [.int .i64 s, .int .i64 a, .int .i64 l], .int .i64 n]) (args' := [.agg [.int .i64 s, .int .i64 a, .int .i64 l], .int .i64 n]) (d := (some 13)) (sv := .tup [.agg [.int .i64 s, .int .i64 a, .int .i64 l], .int .u64 0, .int .i64 4]) (by kernel_rfl) (take_2 s a l n (by omega) (by omega) (by omega)) [(s : Int) = s, (a : Int) = a, (l : Int) = l, (n : Int) = n] (by kernel_rfl) ⟨rfl, rfl, rfl, rfl, trivial⟩ (by kernel_rfl) ?_
      refine runk TT_ok [] 8 3 [8, 7, 6, 5, 4, 2, 1] [1, 0] ⟨[(8, .int .i64 4), (7, .int .u64 0), (6, .loc 1 0), (5, .bool true), (4, .bool false), (2, .loc 0 0), (1, .int .i64 n)], [(1, .cells [.int .i64 s, .int .i64 a, .int .i64 l] 23), (0, .cells [.int .i64 s, .int .i64 a, .int .i64 l] 23)], 2⟩ [True] (by kernel_rfl) ⟨trivial, trivial⟩ ?_
      refine endr (by kernel_rfl) ?_
      refine an ?_
      refine xw_seq ?_
      refine xw_seq ?_
      refine reg ?_
      refine runk TT_ok [(1, .bool false)] 2 0 [18, 8, 7, 6, 5, 4, 2, 1] [1, 0] ⟨[(18, .bool false), (8, .int .i64 4), (7, .int .u64 0), (6, .loc 1 0), (5, .bool true), (4, .bool false), (2, .loc 0 0), (1, .int .i64 n)], [(1, .cells [.int .i64 s, .int .i64 a, .int .i64 l] 23), (0, .cells [.int .i64 s, .int .i64 a, .int .i64 l] 23)], 2⟩ [(4 == 0) = false] (by kernel_rfl) ⟨beq_eq_false_iff_ne.2 (by omega), trivial⟩ ?_
      refine endr (by kernel_rfl) ?_
      refine an ?_
      refine xw_false (by kernel_rfl) ?_
      refine xw_skip ?_
      refine an ?_
      refine xw_seq ?_
      refine reg ?_
      refine runk TT_ok [(4, .bool true), (8, .bool true), (12, .bool false)] 14 0 [47, 46, 44, 8, 4, 2, 1] [0] ⟨[(47, .agg [.int .i64 s, .int .i64 a, .int .i64 l]), (46, .bool false), (44, .bool true), (8, .int .i64 4), (4, .bool false), (2, .loc 0 0), (1, .int .i64 n)], [(0, .cells [.int .i64 s, .int .i64 a, .int .i64 l] 23)], 2⟩ [True, True, ((s == s) && ((a == a) && ((l == l) && true))) = true, True, (0 == 0) = true, True, (4 == 1) = false, True] (by kernel_rfl) ⟨trivial, trivial, (by simp <;> omega), trivial, beq_iff_eq.2 (by omega), trivial, beq_eq_false_iff_ne.2 (by omega), trivial, trivial⟩ ?_
      refine pcall1 (args := [.agg [.int .i64 s, .int .i64 a, .int .i64 l]]) (args' := [.agg [.int .i64 s, .int .i64 a, .int .i64 l]]) (d := (some 48)) (sv := .bool true) (by kernel_rfl) (right_1 s a l (by omega)) [(s : Int) = s, (a : Int) = a, (l : Int) = l] (by kernel_rfl) ⟨rfl, rfl, rfl, trivial⟩ (by kernel_rfl) ?_
      refine runk TT_ok [(18, .bool false), (20, .bool true), (24, .bool true)] 11 15 [59, 58, 56, 4, 2, 1] [0] ⟨[(59, .agg [.int .i64 s, .int .i64 a, .int .i64 l]), (58, .bool true), (56, .bool true), (4, .bool false), (2, .loc 0 0), (1, .int .i64 n)], [(0, .cells [.int .i64 s, .int .i64 a, .int .i64 l] 23)], 2⟩ [(decide (n < 1)) = false, True, (false == false) = true, True, (4 == 4) = true, True] (by kernel_rfl) ⟨decide_eq_false (by omega), trivial, rfl, trivial, beq_iff_eq.2 (by omega), trivial, trivial⟩ ?_
      refine pcall1 (args := [.agg [.int .i64 s, .int .i64 a, .int .i64 l]]) (args' := [.agg [.int .i64 s, .int .i64 a, .int .i64 l]]) (d := (some 60)) (sv := .bool true) (by kernel_rfl) (right_1 s a l (by omega)) [(s : Int) = s, (a : Int) = a, (l : Int) = l] (by kernel_rfl) ⟨rfl, rfl, rfl, trivial⟩ (by kernel_rfl) ?_
      refine runk TT_ok [] 3 27 [63, 62, 61, 58, 56, 4] [] ⟨[(63, .agg [.int .i64 s, .int .i64 a, .int .i64 l]), (62, .int .i64 n), (61, .bool true), (58, .bool true), (56, .bool true), (4, .bool false)], [], 2⟩ [True] (by kernel_rfl) ⟨trivial, trivial⟩ ?_
      refine pcall1 (args := [.agg [.int .i64 s, .int .i64 a, .int .i64 l]]) (args' := [.agg [.int .i64 s, .int .i64 a, .int .i64 l]]) (d := (some 64)) (sv := .int .i64 (l - a)) (by kernel_rfl) (left_1 s a l (by omega)) [(s : Int) = s, (a : Int) = a, (l : Int) = l] (by kernel_rfl) ⟨rfl, rfl, rfl, trivial⟩ (by kernel_rfl) ?_
      refine runk TT_ok [(31, .bool true), (33, .bool true)] 5 31 [4] [] ⟨[(4, .bool true)], [], 2⟩ [(decide ((l - a) < n)) = true, True, (true == true) = true, True] (by kernel_rfl) ⟨decide_eq_true (by omega), trivial, rfl, trivial, trivial⟩ ?_
      refine endr (by kernel_rfl) ?_
      refine an ?_
      refine xw_ret ?_
      exact bk_ret (.bool true) (.bool true) (.bool true) (by kernel_rfl) (by kernel_rfl) (wkd [true = true] (by kernel_rfl) ⟨rfl, trivial⟩) rfl
    · skip
      refine pcall1 (args := [.agg [.int .i64 s, .int .i64 a, .int .i64 l], .int .i64 n]) (args' := [.agg [.int .i64 s, .int .i64 a, .int .i64 l], .int .i64 n]) (d := (some 13)) (sv := .tup [.agg [.int .i64 s, .int .i64 a, .int .i64 l], .int .u64 0, .int .i64 1]) (by kernel_rfl) (take_3 s a l n (by omega)) [(s : Int) = s, (a : Int) = a, (l : Int) = l, (n : Int) = n] (by kernel_rfl) ⟨rfl, rfl, rfl, rfl, trivial⟩ (by kernel_rfl) ?_
      refine runk TT_ok [] 8 3 [8, 7, 6, 5, 4, 2, 1] [1, 0] ⟨[(8, .int .i64 1), (7, .int .u64 0), (6, .loc 1 0), (5, .bool true), (4, .bool false), (2, .loc 0 0), (1, .int .i64 n)], [(1, .cells [.int .i64 s, .int .i64 a, .int .i64 l] 23), (0, .cells [.int .i64 s, .int .i64 a, .int .i64 l] 23)], 2⟩ [True] (by kernel_rfl) ⟨trivial, trivial⟩ ?_
      refine endr (by kernel_rfl) ?_
      refine an ?_
      refine xw_seq ?_
      refine xw_seq ?_
      refine reg ?_
      refine runk TT_ok [(1, .bool false)] 2 0 [18, 8, 7, 6, 5, 4, 2, 1] [1, 0] ⟨[(18, .bool false), (8, .int .i64 1), (7, .int .u64 0), (6, .loc 1 0), (5, .bool true), (4, .bool false), (2, .loc 0 0), (1, .int .i64 n)], [(1, .cells [.int .i64 s, .int .i64 a, .int .i64 l] 23), (0, .cells [.int .i64 s, .int .i64 a, .int .i64 l] 23)], 2⟩ [(1 == 0) = false] (by kernel_rfl) ⟨beq_eq_false_iff_ne.2 (by omega), trivial⟩ ?_
      refine endr (by kernel_rfl) ?_
      refine an ?_
      refine xw_false (by kernel_rfl) ?_
      refine xw_skip ?_
      refine an ?_
      refine xw_seq ?_
      refine reg ?_
      refine runk TT_ok [(4, .bool true), (8, .bool true), (12, .bool true)] 14 0 [47, 46, 44, 8, 4, 2, 1] [0] ⟨[(47, .agg [.int .i64 s, .int .i64 a, .int .i64 l]), (46, .bool true), (44, .bool true), (8, .int .i64 1), (4, .bool false), (2, .loc 0 0), (1, .int .i64 n)], [(0, .cells [.int .i64 s, .int .i64 a, .int .i64 l] 23)], 2⟩ [True, True, ((s == s) && ((a == a) && ((l == l) && true))) = true, True, (0 == 0) = true, True, (1 == 1) = true, True] (by kernel_rfl) ⟨trivial, trivial, (by simp <;> omega), trivial, beq_iff_eq.2 (by omega), trivial, beq_iff_eq.2 (by omega), trivial, trivial⟩ ?_
      by_cases h2 : (s = 0 ∨ s = 1) ∧ 0 ≤ a ∧ a ≤ l ∧ l ≤ 4096
      · skip
        refine pcall1 (args := [.agg [.int .i64 s, .int .i64 a, .int .i64 l]]) (args' := [.agg [.int .i64 s, .int .i64 a, .int .i64 l]]) (d := (some 48)) (sv := .bool true) (by kernel_rfl) (right_1 s a l (by omega)) [(s : Int) = s, (a : Int) = a, (l : Int) = l] (by kernel_rfl) ⟨rfl, rfl, rfl, trivial⟩ (by kernel_rfl) ?_
        refine runk TT_ok [(18, .bool true), (20, .bool true), (24, .bool false)] 11 15 [59, 58, 56, 4, 2, 1] [0] ⟨[(59, .agg [.int .i64 s, .int .i64 a, .int .i64 l]), (58, .bool false), (56, .bool true), (4, .bool false), (2, .loc 0 0), (1, .int .i64 n)], [(0, .cells [.int .i64 s, .int .i64 a, .int .i64 l] 23)], 2⟩ [(decide (n < 1)) = true, True, (true == true) = true, True, (1 == 4) = false, True] (by kernel_rfl) ⟨decide_eq_true (by omega), trivial, rfl, trivial, beq_eq_false_iff_ne.2 (by omega), trivial, trivial⟩ ?_
        refine pcall1 (args := [.agg [.int .i64 s, .int .i64 a, .int .i64 l]]) (args' := [.agg [.int .i64 s, .int .i64 a, .int .i64 l]]) (d := (some 60)) (sv := .bool true) (by kernel_rfl) (right_1 s a l (by omega)) [(s : Int) = s, (a : Int) = a, (l : Int) = l] (by kernel_rfl) ⟨rfl, rfl, rfl, trivial⟩ (by kernel_rfl) ?_
        refine runk TT_ok [] 3 27 [63, 62, 61, 58, 56, 4] [] ⟨[(63, .agg [.int .i64 s, .int .i64 a, .int .i64 l]), (62, .int .i64 n), (61, .bool true), (58, .bool false), (56, .bool true), (4, .bool false)], [], 2⟩ [True] (by kernel_rfl) ⟨trivial, trivial⟩ ?_
        refine pcall1 (args := [.agg [.int .i64 s, .int .i64 a, .int .i64 l]]) (args' := [.agg [.int .i64 s, .int .i64 a, .int .i64 l]]) (d := (some 64)) (sv := .int .i64 (l - a)) (by kernel_rfl) (left_1 s a l (by omega)) [(s : Int) = s, (a : Int) = a, (l : Int) = l] (by kernel_rfl) ⟨rfl, rfl, rfl, trivial⟩ (by kernel_rfl) ?_
        refine runk TT_ok [(31, .bool false), (33, .bool true)] 5 31 [4] [] ⟨[(4, .bool true)], [], 2⟩ [(decide ((l - a) < n)) = false, True, (false == false) = true, True] (by kernel_rfl) ⟨decide_eq_false (by omega), trivial, rfl, trivial, trivial⟩ ?_
        refine endr (by kernel_rfl) ?_
        refine an ?_
        refine xw_ret ?_
        exact bk_ret (.bool true) (.bool true) (.bool true) (by kernel_rfl) (by kernel_rfl) (wkd [true = true] (by kernel_rfl) ⟨rfl, trivial⟩) rfl
      · skip
        refine pcall1 (args := [.agg [.int .i64 s, .int .i64 a, .int .i64 l]]) (args' := [.agg [.int .i64 s, .int .i64 a, .int .i64 l]]) (d := (some 48)) (sv := .bool false) (by kernel_rfl) (right_2 s a l (by omega)) [(s : Int) = s, (a : Int) = a, (l : Int) = l] (by kernel_rfl) ⟨rfl, rfl, rfl, trivial⟩ (by kernel_rfl) ?_
        refine runk TT_ok [(20, .bool true), (24, .bool false)] 11 15 [59, 58, 56, 4, 2, 1] [0] ⟨[(59, .agg [.int .i64 s, .int .i64 a, .int .i64 l]), (58, .bool false), (56, .bool true), (4, .bool false), (2, .loc 0 0), (1, .int .i64 n)], [(0, .cells [.int .i64 s, .int .i64 a, .int .i64 l] 23)], 2⟩ [True, (true == true) = true, True, (1 == 4) = false, True] (by kernel_rfl) ⟨trivial, rfl, trivial, beq_eq_false_iff_ne.2 (by omega), trivial, trivial⟩ ?_
        refine pcall1 (args := [.agg [.int .i64 s, .int .i64 a, .int .i64 l]]) (args' := [.agg [.int .i64 s, .int .i64 a, .int .i64 l]]) (d := (some 60)) (sv := .bool false) (by kernel_rfl) (right_2 s a l (by omega)) [(s : Int) = s, (a : Int) = a, (l : Int) = l] (by kernel_rfl) ⟨rfl, rfl, rfl, trivial⟩ (by kernel_rfl) ?_
        refine runk TT_ok [(33, .bool true)] 9 27 [4] [] ⟨[(4, .bool true)], [], 2⟩ [True, (false == false) = true, True] (by kernel_rfl) ⟨trivial, rfl, trivial, trivial⟩ ?_
        refine endr (by kernel_rfl) ?_
        refine an ?_
        refine xw_ret ?_
        exact bk_ret (.bool true) (.bool true) (.bool true) (by kernel_rfl) (by kernel_rfl) (wkd [true = true] (by kernel_rfl) ⟨rfl, trivial⟩) rfl

end Go.Proofs.Ytiilcckpoibhhaa.X
