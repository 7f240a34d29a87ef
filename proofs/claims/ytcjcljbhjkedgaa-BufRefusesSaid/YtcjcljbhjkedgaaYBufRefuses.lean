/- Contracts of Go functions: what each returns, for every input that its premises name; no memory of the caller is touched. Printed by a program. -/
import Derived.Test.YtcjcljbhjkedgaaXe3
import Derived.Test.YtcjcljbhjkedgaaXq6
namespace Go.Proofs.Ytcjcljbhjkedgaa.X
open Go Go.RowKit
set_option linter.unusedVariables false      -- a premise may serve only to tell which way is taken
set_option linter.unusedSimpArgs false
theorem bufRefuses (W : Int) (xs : List Int) (ys : List Int) (s : Int) (b : Int) (l : Int) (p : Int) (q : Int) (t : Int) (f : Int) (m : Int) (n : Int) (hp0 : -9223372036854775808 ≤ W ∧ W ≤ 9223372036854775807) (hp1 : U64s xs) (hp2 : U64s ys) (hp3 : -9223372036854775808 ≤ s ∧ s ≤ 9223372036854775807) (hp4 : -9223372036854775808 ≤ b ∧ b ≤ 9223372036854775807) (hp5 : -9223372036854775808 ≤ l ∧ l ≤ 9223372036854775807) (hp6 : -9223372036854775808 ≤ p ∧ p ≤ 9223372036854775807) (hp7 : -9223372036854775808 ≤ q ∧ q ≤ 9223372036854775807) (hp8 : -9223372036854775808 ≤ t ∧ t ≤ 9223372036854775807) (hp9 : -9223372036854775808 ≤ f ∧ f ≤ 9223372036854775807) (hp10 : 0 ≤ m ∧ m ≤ 18446744073709551615) (hp11 : -9223372036854775808 ≤ n ∧ n ≤ 9223372036854775807) : Pub Try.prog 6 [.agg (mm W xs ys ++ [.int .i64 s, .int .i64 b, .int .i64 l, .int .i64 p, .int .i64 q]), .agg [.int .i64 t, .int .i64 f, .int .u64 m], .int .i64 n] (fun rv => rv = .bool true) := by
 refine pub_of TT_ok Try.func6 rfl (by decide) (Nat.le_of_ble_eq_true (by kernel_rfl)) (by kernel_rfl) ?_
 refine rg [] 3 ⟨[(6, .f), (4, .p 1), (3, .p 0), (2, .i n)], [(1, .cells [.i t, .i f, .u m] 35), (0, .cells (mm W xs ys ++ [.i s, .i b, .i l, .i p, .i q]) 54)], 2⟩ [] trivial ?_
 refine xw_seq ?_
 refine reg ?_
 refine pc (shown8 ) ?_
 refine rk [] 1 1 ⟨[(7, .t), (6, .f), (4, .p 1), (3, .p 0), (2, .i n)], [(1, .cells [.i t, .i f, .u m] 35), (0, .cells (mm W xs ys ++ [.i s, .i b, .i l, .i p, .i q]) 54)], 2⟩ [] trivial ?_
 refine en ?_
 refine an ?_
 refine xw_seq ?_
 refine reg ?_
 refine rk [] 1 0 ⟨[(15, .agg (mm W xs ys ++ [.i s, .i b, .i l, .i p, .i q])), (7, .t), (6, .f), (4, .p 1), (3, .p 0), (2, .i n)], [(1, .cells [.i t, .i f, .u m] 35), (0, .cells (mm W xs ys ++ [.i s, .i b, .i l, .i p, .i q]) 54)], 2⟩ [True] ⟨trivial, trivial⟩ ?_
 by_cases h0 : 16 ≤ W ∧ W ≤ 4096 ∧ (xs.length : Int) = W ∧ (ys.length : Int) = W ∧ (s = 0 ∨ s = 1) ∧ 0 ≤ b ∧ b ≤ l ∧ l ≤ 4096 ∧ l = W ∧ ((p = 0 ∧ q = 0) ∨ (0 ≤ p ∧ p ≤ q ∧ q ≤ b)) ∧ W ≤ 200
 ·
  refine pc (few8_1 W xs ys s b l p q ‹_› ‹_› ‹_› ‹_› ‹_› ‹_› ‹_›) ?_
  refine rk [] 1 2 ⟨[(8, .t), (7, .t), (6, .f), (4, .p 1), (3, .p 0), (2, .i n)], [(1, .cells [.i t, .i f, .u m] 35), (0, .cells (mm W xs ys ++ [.i s, .i b, .i l, .i p, .i q]) 54)], 2⟩ [] trivial ?_
  refine en ?_
  refine an ?_
  refine xw_seq ?_
  refine xw_seq ?_
  refine reg ?_
  refine rk [] 4 0 ⟨[(20, .agg [.i t, .i f, .u m]), (19, .f), (7, .t), (6, .f), (4, .p 1), (3, .p 0), (2, .i n)], [(1, .cells [.i t, .i f, .u m] 35), (0, .cells (mm W xs ys ++ [.i s, .i b, .i l, .i p, .i q]) 54)], 2⟩ [True] ⟨trivial, trivial⟩ ?_
  by_cases h1 : (t = 255 ∧ 0 ≤ f ∧ f ≤ 65535 ∧ m = 0) ∨ (1 ≤ t ∧ t ≤ 200 ∧ 0 ≤ f ∧ f ≤ 16 ∧ m < 2 ^ (Int.toNat f) ∧ m < 65536)
  ·
   refine pc (rhright_1 t f m ‹_› ‹_› ‹_› ‹_›) ?_
   refine rk [(5, .f), (10, .bool (t == 255))] 7 5 ⟨[(28, .bool (t == 255)), (7, .t), (6, .f), (4, .p 1), (3, .p 0), (2, .i n)], [(1, .cells [.i t, .i f, .u m] 35), (0, .cells (mm W xs ys ++ [.i s, .i b, .i l, .i p, .i q]) 54)], 2⟩ [(0 != 0) = false, True, True, (t == 255) = (t == 255), True] ⟨bne_eq_false_iff_eq.2 (by omega), trivial, trivial, rfl, trivial, trivial⟩ ?_
   refine en ?_
   refine an ?_
   refine xw_cond (b := (t == 255)) (by kernel_rfl) (fun h2 => ?_) (fun h2 => ?_)
   ·
    replace h2 : t = 255 := eq_of_beq h2
    refine rg [] 2 ⟨[(6, .t), (7, .t), (4, .p 1), (3, .p 0), (2, .i n)], [(1, .cells [.i t, .i f, .u m] 35), (0, .cells (mm W xs ys ++ [.i s, .i b, .i l, .i p, .i q]) 54)], 2⟩ [] trivial ?_
    refine xw_ret ?_
    refine an_ret ?_
    exact bs (.t) rfl
   ·
    replace h2 : t ≠ 255 := ne_of_beq_false h2
    refine xw_skip ?_
    refine an ?_
    refine xw_seq ?_
    refine reg ?_
    refine rk [] 3 0 ⟨[(33, .i n), (32, .agg [.i t, .i f, .u m]), (31, .agg (mm W xs ys ++ [.i s, .i b, .i l, .i p, .i q])), (7, .t), (6, .f), (4, .p 1), (3, .p 0), (2, .i n)], [(1, .cells [.i t, .i f, .u m] 35), (0, .cells (mm W xs ys ++ [.i s, .i b, .i l, .i p, .i q]) 54)], 2⟩ [True, True] ⟨trivial, trivial, trivial⟩ ?_
    by_cases h3 : f + 2 ≤ q - p
    ·
     refine pc (bmake_2 W xs ys s b l p q n t f m (by omega) (by omega) (by omega) ‹_› ‹_› (by omega) (by omega) (by omega) ‹_› ‹_› ‹_› ‹_› ‹_› ‹_› ‹_›) ?_
     obtain ⟨h4, h5, h6, h7, h8, h9⟩ := put_ok W xs ys ((s + 1) * 4294967296 + p) t f m (by omega) (by omega) ‹_› ‹_› (by omega) (by omega) (by omega) (by first | omega | decide) (by omega)
     refine rk [] 8 4 ⟨[(11, .i 0), (9, .p 2), (7, .t), (6, .f), (4, .p 1), (3, .p 0), (2, .i n)], [(2, .cells (mm W (px xs ((s + 1) * 4294967296 + p) t f m) (py ys ((s + 1) * 4294967296 + p) t f m) ++ [.i s, .i b, .i l, .i (p + (f + 2)), .i q]) 54), (1, .cells [.i t, .i f, .u m] 35), (0, .cells (mm W xs ys ++ [.i s, .i b, .i l, .i p, .i q]) 54)], 3⟩ [True] ⟨trivial, trivial⟩ ?_
     refine en ?_
     refine an ?_
     refine xw_seq ?_
     refine reg ?_
     refine rk [] 1 0 ⟨[(38, .agg [.i t, .i f, .u m]), (11, .i 0), (9, .p 2), (7, .t), (6, .f), (3, .p 0), (2, .i n)], [(2, .cells (mm W (px xs ((s + 1) * 4294967296 + p) t f m) (py ys ((s + 1) * 4294967296 + p) t f m) ++ [.i s, .i b, .i l, .i (p + (f + 2)), .i q]) 54), (0, .cells (mm W xs ys ++ [.i s, .i b, .i l, .i p, .i q]) 54)], 3⟩ [True] ⟨trivial, trivial⟩ ?_
     refine pc (rhwords_2 t f m ‹_› ‹_› ‹_› (by omega) (by omega)) ?_
     refine rk [] 1 2 ⟨[(12, .i (f + 2)), (11, .i 0), (9, .p 2), (7, .t), (6, .f), (3, .p 0), (2, .i n)], [(2, .cells (mm W (px xs ((s + 1) * 4294967296 + p) t f m) (py ys ((s + 1) * 4294967296 + p) t f m) ++ [.i s, .i b, .i l, .i (p + (f + 2)), .i q]) 54), (0, .cells (mm W xs ys ++ [.i s, .i b, .i l, .i p, .i q]) 54)], 3⟩ [] trivial ?_
     refine en ?_
     refine an ?_
     refine rg [(6, .i (l - b))] 8 ⟨[(13, .i (l - b)), (12, .i (f + 2)), (11, .i 0), (9, .p 2), (7, .t), (6, .f), (3, .p 0), (2, .i n)], [(2, .cells (mm W (px xs ((s + 1) * 4294967296 + p) t f m) (py ys ((s + 1) * 4294967296 + p) t f m) ++ [.i s, .i b, .i l, .i (p + (f + 2)), .i q]) 54), (0, .cells (mm W xs ys ++ [.i s, .i b, .i l, .i p, .i q]) 54)], 3⟩ [True, True, IntKind.i64.wrap (l - b) = (l - b)] ⟨trivial, trivial, i64_eq (by omega) (by omega), trivial⟩ ?_
     refine xw_seq ?_
     refine xw_seq ?_
     refine reg ?_
     refine rk [] 2 0 ⟨[(48, .agg (mm W xs ys ++ [.i s, .i b, .i l, .i p, .i q])), (47, .i (f + 2)), (13, .i (l - b)), (12, .i (f + 2)), (11, .i 0), (9, .p 2), (7, .t), (6, .f), (3, .p 0), (2, .i n)], [(2, .cells (mm W (px xs ((s + 1) * 4294967296 + p) t f m) (py ys ((s + 1) * 4294967296 + p) t f m) ++ [.i s, .i b, .i l, .i (p + (f + 2)), .i q]) 54), (0, .cells (mm W xs ys ++ [.i s, .i b, .i l, .i p, .i q]) 54)], 3⟩ [True] ⟨trivial, trivial⟩ ?_
     refine pc (gap W xs ys s b l p q (by omega)) ?_
     refine rk [(3, .t)] 1 3 ⟨[(50, .t), (13, .i (l - b)), (12, .i (f + 2)), (11, .i 0), (9, .p 2), (7, .t), (6, .f), (3, .p 0), (2, .i n)], [(2, .cells (mm W (px xs ((s + 1) * 4294967296 + p) t f m) (py ys ((s + 1) * 4294967296 + p) t f m) ++ [.i s, .i b, .i l, .i (p + (f + 2)), .i q]) 54), (0, .cells (mm W xs ys ++ [.i s, .i b, .i l, .i p, .i q]) 54)], 3⟩ [(decide ((f + 2) ≤ (q - p))) = true] ⟨decide_eq_true (by omega), trivial⟩ ?_
     refine en ?_
     refine an ?_
     refine ct ?_
     refine xw_seq ?_
     refine dregk hmix (by kernel_rfl) ?_
     refine qr [(3, .t), (10, .t)] 14 0 [(64, .agg (mm W (px xs ((s + 1) * 4294967296 + p) t f m) (py ys ((s + 1) * 4294967296 + p) t f m) ++ [.i s, .i b, .i l, .i (p + (f + 2)), .i q])), (63, .t), (62, .t), (61, .t), (60, .agg [.i s, .i b, .i l]), (59, .loc 0 3), (58, .agg [.i s, .i b, .i l]), (57, .loc 2 3), (56, .t), (55, .t), (54, .t), (53, .i 0), (52, .t), (51, .t), (50, .t), (13, .i (l - b)), (12, .i (f + 2)), (11, .i 0), (9, .p 2), (7, .t), (6, .f), (3, .p 0), (2, .i n)] [(0 == 0) = true, True, True, True, ((s == s) && ((b == b) && ((l == l) && true))) = true, True, True] ⟨beq_iff_eq.2 (by omega), trivial, trivial, trivial, (by simp <;> omega), trivial, trivial, trivial⟩ ?_
     refine qc (gap W (px xs ((s + 1) * 4294967296 + p) t f m) (py ys ((s + 1) * 4294967296 + p) t f m) s b l (p + (f + 2)) q (by omega)) ?_
     refine qr [] 1 15 [(66, .agg (mm W xs ys ++ [.i s, .i b, .i l, .i p, .i q])), (65, .i (q - (p + (f + 2)))), (64, .agg (mm W (px xs ((s + 1) * 4294967296 + p) t f m) (py ys ((s + 1) * 4294967296 + p) t f m) ++ [.i s, .i b, .i l, .i (p + (f + 2)), .i q])), (63, .t), (62, .t), (61, .t), (60, .agg [.i s, .i b, .i l]), (59, .loc 0 3), (58, .agg [.i s, .i b, .i l]), (57, .loc 2 3), (56, .t), (55, .t), (54, .t), (53, .i 0), (52, .t), (51, .t), (50, .t), (13, .i (l - b)), (12, .i (f + 2)), (11, .i 0), (9, .p 2), (7, .t), (6, .f), (3, .p 0), (2, .i n)] [True] ⟨trivial, trivial⟩ ?_
     refine qc (gap W xs ys s b l p q (by omega)) ?_
     refine qr [(18, .i ((q - p) - (f + 2))), (19, .t)] 5 17 [(6, .t), (71, .t), (70, .t), (69, .i ((q - p) - (f + 2))), (68, .i (f + 2)), (67, .i (q - p)), (66, .agg (mm W xs ys ++ [.i s, .i b, .i l, .i p, .i q])), (65, .i (q - (p + (f + 2)))), (64, .agg (mm W (px xs ((s + 1) * 4294967296 + p) t f m) (py ys ((s + 1) * 4294967296 + p) t f m) ++ [.i s, .i b, .i l, .i (p + (f + 2)), .i q])), (63, .t), (62, .t), (61, .t), (60, .agg [.i s, .i b, .i l]), (59, .loc 0 3), (58, .agg [.i s, .i b, .i l]), (57, .loc 2 3), (56, .t), (55, .t), (54, .t), (53, .i 0), (52, .t), (51, .t), (50, .t), (13, .i (l - b)), (12, .i (f + 2)), (11, .i 0), (9, .p 2), (7, .t), (6, .f), (3, .p 0), (2, .i n)] [IntKind.i64.wrap ((q - p) - (f + 2)) = ((q - p) - (f + 2)), ((q - (p + (f + 2))) == ((q - p) - (f + 2))) = true, True] ⟨i64_eq (by omega) (by omega), beq_iff_eq.2 (by omega), trivial, trivial⟩ ?_
     refine qen ?_
     refine an ?_
     refine xw_ret ?_
     refine an_ret ?_
     exact bs (.t) rfl
    ·
     by_cases h4 : (n < 2 * (f + 2)) ∧ (f + 2 ≤ l - b)
     ·
      refine pc (bmake_3 W xs ys s b l p q n t f m (by omega) (by omega) (by omega) ‹_› ‹_› (by omega) (by omega) (by omega) ‹_› ‹_› ‹_› ‹_› ‹_› ‹_› (by omega) (by omega) (by omega)) ?_
      obtain ⟨h5, h6, h7, h8, h9, h10⟩ := put_ok W xs ys ((s + 1) * 4294967296 + b) t f m (by omega) (by omega) ‹_› ‹_› (by omega) (by omega) (by omega) (by first | omega | decide) (by omega)
      refine rk [] 8 4 ⟨[(11, .i 0), (9, .p 2), (7, .t), (6, .f), (4, .p 1), (3, .p 0), (2, .i n)], [(2, .cells (mm W (px xs ((s + 1) * 4294967296 + b) t f m) (py ys ((s + 1) * 4294967296 + b) t f m) ++ [.i s, .i (b + (f + 2)), .i l, .i p, .i q]) 54), (1, .cells [.i t, .i f, .u m] 35), (0, .cells (mm W xs ys ++ [.i s, .i b, .i l, .i p, .i q]) 54)], 3⟩ [True] ⟨trivial, trivial⟩ ?_
      refine en ?_
      refine an ?_
      refine xw_seq ?_
      refine reg ?_
      refine rk [] 1 0 ⟨[(38, .agg [.i t, .i f, .u m]), (11, .i 0), (9, .p 2), (7, .t), (6, .f), (3, .p 0), (2, .i n)], [(2, .cells (mm W (px xs ((s + 1) * 4294967296 + b) t f m) (py ys ((s + 1) * 4294967296 + b) t f m) ++ [.i s, .i (b + (f + 2)), .i l, .i p, .i q]) 54), (0, .cells (mm W xs ys ++ [.i s, .i b, .i l, .i p, .i q]) 54)], 3⟩ [True] ⟨trivial, trivial⟩ ?_
      refine pc (rhwords_2 t f m ‹_› ‹_› ‹_› (by omega) (by omega)) ?_
      refine rk [] 1 2 ⟨[(12, .i (f + 2)), (11, .i 0), (9, .p 2), (7, .t), (6, .f), (3, .p 0), (2, .i n)], [(2, .cells (mm W (px xs ((s + 1) * 4294967296 + b) t f m) (py ys ((s + 1) * 4294967296 + b) t f m) ++ [.i s, .i (b + (f + 2)), .i l, .i p, .i q]) 54), (0, .cells (mm W xs ys ++ [.i s, .i b, .i l, .i p, .i q]) 54)], 3⟩ [] trivial ?_
      refine en ?_
      refine an ?_
      refine rg [(6, .i (l - b))] 8 ⟨[(13, .i (l - b)), (12, .i (f + 2)), (11, .i 0), (9, .p 2), (7, .t), (6, .f), (3, .p 0), (2, .i n)], [(2, .cells (mm W (px xs ((s + 1) * 4294967296 + b) t f m) (py ys ((s + 1) * 4294967296 + b) t f m) ++ [.i s, .i (b + (f + 2)), .i l, .i p, .i q]) 54), (0, .cells (mm W xs ys ++ [.i s, .i b, .i l, .i p, .i q]) 54)], 3⟩ [True, True, IntKind.i64.wrap (l - b) = (l - b)] ⟨trivial, trivial, i64_eq (by omega) (by omega), trivial⟩ ?_
      refine xw_seq ?_
      refine xw_seq ?_
      refine reg ?_
      refine rk [] 2 0 ⟨[(48, .agg (mm W xs ys ++ [.i s, .i b, .i l, .i p, .i q])), (47, .i (f + 2)), (13, .i (l - b)), (12, .i (f + 2)), (11, .i 0), (9, .p 2), (7, .t), (6, .f), (3, .p 0), (2, .i n)], [(2, .cells (mm W (px xs ((s + 1) * 4294967296 + b) t f m) (py ys ((s + 1) * 4294967296 + b) t f m) ++ [.i s, .i (b + (f + 2)), .i l, .i p, .i q]) 54), (0, .cells (mm W xs ys ++ [.i s, .i b, .i l, .i p, .i q]) 54)], 3⟩ [True] ⟨trivial, trivial⟩ ?_
      refine pc (gap W xs ys s b l p q (by omega)) ?_
      refine rk [(3, .f)] 1 3 ⟨[(50, .f), (13, .i (l - b)), (12, .i (f + 2)), (11, .i 0), (9, .p 2), (7, .t), (6, .f), (3, .p 0), (2, .i n)], [(2, .cells (mm W (px xs ((s + 1) * 4294967296 + b) t f m) (py ys ((s + 1) * 4294967296 + b) t f m) ++ [.i s, .i (b + (f + 2)), .i l, .i p, .i q]) 54), (0, .cells (mm W xs ys ++ [.i s, .i b, .i l, .i p, .i q]) 54)], 3⟩ [(decide ((f + 2) ≤ (q - p))) = false] ⟨decide_eq_false (by omega), trivial⟩ ?_
      refine en ?_
      refine an ?_
      refine cf ?_
      refine xw_skip ?_
      refine an ?_
      refine xw_seq ?_
      refine reg ?_
      refine rk [(4, .t), (12, .t), (21, .f), (24, .bool (decide (n < 0)))] 27 0 ⟨[(98, .bool (decide (n < 0))), (90, .t), (11, .i 0), (6, .f), (2, .i n)], [], 3⟩ [(decide ((f + 2) ≤ (l - b))) = true, True, True, (0 == 0) = true, True, True, (decide ((l - b) < (f + 2))) = false, (decide (n < 0)) = (decide (n < 0)), True] ⟨decide_eq_true (by omega), trivial, trivial, beq_iff_eq.2 (by omega), trivial, trivial, decide_eq_false (by omega), rfl, trivial, trivial⟩ ?_
      refine splitr 98 (x := (decide (n < 0))) (by kernel_rfl) (fun h11 => ?_) (fun h11 => ?_)
      ·
       replace h11 : n < 0 := of_decide_eq_true h11
       refine rk [] 9 27 ⟨[(6, .t)], [], 3⟩ [True, True, True] ⟨trivial, trivial, trivial, trivial⟩ ?_
       refine en ?_
       refine an ?_
       refine xw_ret ?_
       exact bs (.t) rfl
      ·
       replace h11 : ¬ (n < 0) := of_decide_eq_false h11
       refine rk [(28, .f), (32, .t)] 9 27 ⟨[(6, .t)], [], 3⟩ [(decide (4096 < n)) = false, True, (0 == 0) = true, True, True] ⟨decide_eq_false (by omega), trivial, beq_iff_eq.2 (by omega), trivial, trivial, trivial⟩ ?_
       refine en ?_
       refine an ?_
       refine xw_ret ?_
       exact bs (.t) rfl
     ·
      by_cases h5 : (n < 2 * (f + 2)) ∧ (l - b < f + 2)
      ·
       refine pc (bmake_4 W xs ys s b l p q n t f m (by omega) (by omega) (by omega) ‹_› ‹_› (by omega) (by omega) (by omega) ‹_› ‹_› ‹_› ‹_› ‹_› ‹_› (by omega) (by omega) (by omega)) ?_
       refine rk [] 8 4 ⟨[(11, .i 4), (9, .p 2), (7, .t), (6, .f), (4, .p 1), (3, .p 0), (2, .i n)], [(2, .cells (mm W xs ys ++ [.i s, .i b, .i l, .i p, .i q]) 54), (1, .cells [.i t, .i f, .u m] 35), (0, .cells (mm W xs ys ++ [.i s, .i b, .i l, .i p, .i q]) 54)], 3⟩ [True] ⟨trivial, trivial⟩ ?_
       refine en ?_
       refine an ?_
       refine xw_seq ?_
       refine reg ?_
       refine rk [] 1 0 ⟨[(38, .agg [.i t, .i f, .u m]), (11, .i 4), (9, .p 2), (7, .t), (6, .f), (3, .p 0), (2, .i n)], [(2, .cells (mm W xs ys ++ [.i s, .i b, .i l, .i p, .i q]) 54), (0, .cells (mm W xs ys ++ [.i s, .i b, .i l, .i p, .i q]) 54)], 3⟩ [True] ⟨trivial, trivial⟩ ?_
       refine pc (rhwords_2 t f m ‹_› ‹_› ‹_› (by omega) (by omega)) ?_
       refine rk [] 1 2 ⟨[(12, .i (f + 2)), (11, .i 4), (9, .p 2), (7, .t), (6, .f), (3, .p 0), (2, .i n)], [(2, .cells (mm W xs ys ++ [.i s, .i b, .i l, .i p, .i q]) 54), (0, .cells (mm W xs ys ++ [.i s, .i b, .i l, .i p, .i q]) 54)], 3⟩ [] trivial ?_
       refine en ?_
       refine an ?_
       refine rg [(6, .i (l - b))] 8 ⟨[(13, .i (l - b)), (12, .i (f + 2)), (11, .i 4), (9, .p 2), (7, .t), (6, .f), (3, .p 0), (2, .i n)], [(2, .cells (mm W xs ys ++ [.i s, .i b, .i l, .i p, .i q]) 54), (0, .cells (mm W xs ys ++ [.i s, .i b, .i l, .i p, .i q]) 54)], 3⟩ [True, True, IntKind.i64.wrap (l - b) = (l - b)] ⟨trivial, trivial, i64_eq (by omega) (by omega), trivial⟩ ?_
       refine xw_seq ?_
       refine xw_seq ?_
       refine reg ?_
       refine rk [] 2 0 ⟨[(48, .agg (mm W xs ys ++ [.i s, .i b, .i l, .i p, .i q])), (47, .i (f + 2)), (13, .i (l - b)), (12, .i (f + 2)), (11, .i 4), (9, .p 2), (7, .t), (6, .f), (3, .p 0), (2, .i n)], [(2, .cells (mm W xs ys ++ [.i s, .i b, .i l, .i p, .i q]) 54), (0, .cells (mm W xs ys ++ [.i s, .i b, .i l, .i p, .i q]) 54)], 3⟩ [True] ⟨trivial, trivial⟩ ?_
       refine pc (gap W xs ys s b l p q (by omega)) ?_
       refine rk [(3, .f)] 1 3 ⟨[(50, .f), (13, .i (l - b)), (12, .i (f + 2)), (11, .i 4), (9, .p 2), (7, .t), (6, .f), (3, .p 0), (2, .i n)], [(2, .cells (mm W xs ys ++ [.i s, .i b, .i l, .i p, .i q]) 54), (0, .cells (mm W xs ys ++ [.i s, .i b, .i l, .i p, .i q]) 54)], 3⟩ [(decide ((f + 2) ≤ (q - p))) = false] ⟨decide_eq_false (by omega), trivial⟩ ?_
       refine en ?_
       refine an ?_
       refine cf ?_
       refine xw_skip ?_
       refine an ?_
       refine rg [(4, .f), (7, .t), (12, .f), (15, .t), (21, .t)] 36 ⟨[(6, .t)], [], 3⟩ [(decide ((f + 2) ≤ (l - b))) = false, (4 == 4) = true, True, True, (4 == 0) = false, (4 == 4) = true, True, True, (decide ((l - b) < (f + 2))) = true, True, True, True, True] ⟨decide_eq_false (by omega), beq_iff_eq.2 (by omega), trivial, trivial, beq_eq_false_iff_ne.2 (by omega), beq_iff_eq.2 (by omega), trivial, trivial, decide_eq_true (by omega), trivial, trivial, trivial, trivial, trivial⟩ ?_
       refine xw_ret ?_
       exact bs (.t) rfl
      ·
       by_cases h6 : l - b < f + 2
       ·
        refine pc (bmake_5 W xs ys s b l p q n t f m (by omega) (by omega) (by omega) ‹_› ‹_› (by omega) (by omega) (by omega) ‹_› ‹_› ‹_› ‹_› ‹_› ‹_› (by omega) (by omega) ‹_›) ?_
        obtain ⟨h7, h8, h9, h10⟩ := rt_ok W xs ys s p q (by omega) (by omega) ‹_› ‹_› (by omega) (by omega)
        refine rk [] 8 4 ⟨[(11, .i 4), (9, .p 2), (7, .t), (6, .f), (4, .p 1), (3, .p 0), (2, .i n)], [(2, .cells (mm W (rtx xs s p q) (rty ys s p q) ++ [.i s, .i b, .i l, .i 0, .i 0]) 54), (1, .cells [.i t, .i f, .u m] 35), (0, .cells (mm W xs ys ++ [.i s, .i b, .i l, .i p, .i q]) 54)], 3⟩ [True] ⟨trivial, trivial⟩ ?_
        refine en ?_
        refine an ?_
        refine xw_seq ?_
        refine reg ?_
        refine rk [] 1 0 ⟨[(38, .agg [.i t, .i f, .u m]), (11, .i 4), (9, .p 2), (7, .t), (6, .f), (3, .p 0), (2, .i n)], [(2, .cells (mm W (rtx xs s p q) (rty ys s p q) ++ [.i s, .i b, .i l, .i 0, .i 0]) 54), (0, .cells (mm W xs ys ++ [.i s, .i b, .i l, .i p, .i q]) 54)], 3⟩ [True] ⟨trivial, trivial⟩ ?_
        refine pc (rhwords_2 t f m ‹_› ‹_› ‹_› (by omega) (by omega)) ?_
        refine rk [] 1 2 ⟨[(12, .i (f + 2)), (11, .i 4), (9, .p 2), (7, .t), (6, .f), (3, .p 0), (2, .i n)], [(2, .cells (mm W (rtx xs s p q) (rty ys s p q) ++ [.i s, .i b, .i l, .i 0, .i 0]) 54), (0, .cells (mm W xs ys ++ [.i s, .i b, .i l, .i p, .i q]) 54)], 3⟩ [] trivial ?_
        refine en ?_
        refine an ?_
        refine rg [(6, .i (l - b))] 8 ⟨[(13, .i (l - b)), (12, .i (f + 2)), (11, .i 4), (9, .p 2), (7, .t), (6, .f), (3, .p 0), (2, .i n)], [(2, .cells (mm W (rtx xs s p q) (rty ys s p q) ++ [.i s, .i b, .i l, .i 0, .i 0]) 54), (0, .cells (mm W xs ys ++ [.i s, .i b, .i l, .i p, .i q]) 54)], 3⟩ [True, True, IntKind.i64.wrap (l - b) = (l - b)] ⟨trivial, trivial, i64_eq (by omega) (by omega), trivial⟩ ?_
        refine xw_seq ?_
        refine xw_seq ?_
        refine reg ?_
        refine rk [] 2 0 ⟨[(48, .agg (mm W xs ys ++ [.i s, .i b, .i l, .i p, .i q])), (47, .i (f + 2)), (13, .i (l - b)), (12, .i (f + 2)), (11, .i 4), (9, .p 2), (7, .t), (6, .f), (3, .p 0), (2, .i n)], [(2, .cells (mm W (rtx xs s p q) (rty ys s p q) ++ [.i s, .i b, .i l, .i 0, .i 0]) 54), (0, .cells (mm W xs ys ++ [.i s, .i b, .i l, .i p, .i q]) 54)], 3⟩ [True] ⟨trivial, trivial⟩ ?_
        refine pc (gap W xs ys s b l p q (by omega)) ?_
        refine rk [(3, .f)] 1 3 ⟨[(50, .f), (13, .i (l - b)), (12, .i (f + 2)), (11, .i 4), (9, .p 2), (7, .t), (6, .f), (3, .p 0), (2, .i n)], [(2, .cells (mm W (rtx xs s p q) (rty ys s p q) ++ [.i s, .i b, .i l, .i 0, .i 0]) 54), (0, .cells (mm W xs ys ++ [.i s, .i b, .i l, .i p, .i q]) 54)], 3⟩ [(decide ((f + 2) ≤ (q - p))) = false] ⟨decide_eq_false (by omega), trivial⟩ ?_
        refine en ?_
        refine an ?_
        refine cf ?_
        refine xw_skip ?_
        refine an ?_
        refine rg [(4, .f), (7, .t), (12, .f), (15, .t), (21, .t)] 36 ⟨[(6, .t)], [], 3⟩ [(decide ((f + 2) ≤ (l - b))) = false, (4 == 4) = true, True, True, (4 == 0) = false, (4 == 4) = true, True, True, (decide ((l - b) < (f + 2))) = true, True, True, True, True] ⟨decide_eq_false (by omega), beq_iff_eq.2 (by omega), trivial, trivial, beq_eq_false_iff_ne.2 (by omega), beq_iff_eq.2 (by omega), trivial, trivial, decide_eq_true (by omega), trivial, trivial, trivial, trivial, trivial⟩ ?_
        refine xw_ret ?_
        exact bs (.t) rfl
       ·
        refine pc (bmake_6 W xs ys s b l p q n t f m (by omega) (by omega) (by omega) ‹_› ‹_› (by omega) (by omega) (by omega) ‹_› ‹_› ‹_› ‹_› ‹_› ‹_› (by omega) (by omega) (by omega)) ?_
        obtain ⟨h7, h8, h9, h10⟩ := rt_ok W xs ys s p q (by omega) (by omega) ‹_› ‹_› (by omega) (by omega)
        obtain ⟨h11, h12, h13, h14, h15, h16⟩ := put_ok W (rtx xs s p q) (rty ys s p q) ((s + 1) * 4294967296 + b) t f m (rt_ok W xs ys s p q (by omega) (by omega) ‹_› ‹_› (by omega) (by omega)).1 (rt_ok W xs ys s p q (by omega) (by omega) ‹_› ‹_› (by omega) (by omega)).2.1 (rt_ok W xs ys s p q (by omega) (by omega) ‹_› ‹_› (by omega) (by omega)).2.2.1 (rt_ok W xs ys s p q (by omega) (by omega) ‹_› ‹_› (by omega) (by omega)).2.2.2 (by omega) (by omega) (by omega) (by first | omega | decide) (by omega)
        refine rk [] 8 4 ⟨[(11, .i 0), (9, .p 2), (7, .t), (6, .f), (4, .p 1), (3, .p 0), (2, .i n)], [(2, .cells (mm W (px (rtx xs s p q) ((s + 1) * 4294967296 + b) t f m) (py (rty ys s p q) ((s + 1) * 4294967296 + b) t f m) ++ [.i s, .i (b + (min n (l - b))), .i l, .i (b + (f + 2)), .i (b + (min n (l - b)))]) 54), (1, .cells [.i t, .i f, .u m] 35), (0, .cells (mm W xs ys ++ [.i s, .i b, .i l, .i p, .i q]) 54)], 3⟩ [True] ⟨trivial, trivial⟩ ?_
        refine en ?_
        refine an ?_
        refine xw_seq ?_
        refine reg ?_
        refine rk [] 1 0 ⟨[(38, .agg [.i t, .i f, .u m]), (11, .i 0), (9, .p 2), (7, .t), (6, .f), (3, .p 0), (2, .i n)], [(2, .cells (mm W (px (rtx xs s p q) ((s + 1) * 4294967296 + b) t f m) (py (rty ys s p q) ((s + 1) * 4294967296 + b) t f m) ++ [.i s, .i (b + (min n (l - b))), .i l, .i (b + (f + 2)), .i (b + (min n (l - b)))]) 54), (0, .cells (mm W xs ys ++ [.i s, .i b, .i l, .i p, .i q]) 54)], 3⟩ [True] ⟨trivial, trivial⟩ ?_
        refine pc (rhwords_2 t f m ‹_› ‹_› ‹_› (by omega) (by omega)) ?_
        refine rk [] 1 2 ⟨[(12, .i (f + 2)), (11, .i 0), (9, .p 2), (7, .t), (6, .f), (3, .p 0), (2, .i n)], [(2, .cells (mm W (px (rtx xs s p q) ((s + 1) * 4294967296 + b) t f m) (py (rty ys s p q) ((s + 1) * 4294967296 + b) t f m) ++ [.i s, .i (b + (min n (l - b))), .i l, .i (b + (f + 2)), .i (b + (min n (l - b)))]) 54), (0, .cells (mm W xs ys ++ [.i s, .i b, .i l, .i p, .i q]) 54)], 3⟩ [] trivial ?_
        refine en ?_
        refine an ?_
        refine rg [(6, .i (l - b))] 8 ⟨[(13, .i (l - b)), (12, .i (f + 2)), (11, .i 0), (9, .p 2), (7, .t), (6, .f), (3, .p 0), (2, .i n)], [(2, .cells (mm W (px (rtx xs s p q) ((s + 1) * 4294967296 + b) t f m) (py (rty ys s p q) ((s + 1) * 4294967296 + b) t f m) ++ [.i s, .i (b + (min n (l - b))), .i l, .i (b + (f + 2)), .i (b + (min n (l - b)))]) 54), (0, .cells (mm W xs ys ++ [.i s, .i b, .i l, .i p, .i q]) 54)], 3⟩ [True, True, IntKind.i64.wrap (l - b) = (l - b)] ⟨trivial, trivial, i64_eq (by omega) (by omega), trivial⟩ ?_
        refine xw_seq ?_
        refine xw_seq ?_
        refine reg ?_
        refine rk [] 2 0 ⟨[(48, .agg (mm W xs ys ++ [.i s, .i b, .i l, .i p, .i q])), (47, .i (f + 2)), (13, .i (l - b)), (12, .i (f + 2)), (11, .i 0), (9, .p 2), (7, .t), (6, .f), (3, .p 0), (2, .i n)], [(2, .cells (mm W (px (rtx xs s p q) ((s + 1) * 4294967296 + b) t f m) (py (rty ys s p q) ((s + 1) * 4294967296 + b) t f m) ++ [.i s, .i (b + (min n (l - b))), .i l, .i (b + (f + 2)), .i (b + (min n (l - b)))]) 54), (0, .cells (mm W xs ys ++ [.i s, .i b, .i l, .i p, .i q]) 54)], 3⟩ [True] ⟨trivial, trivial⟩ ?_
        refine pc (gap W xs ys s b l p q (by omega)) ?_
        refine rk [(3, .f)] 1 3 ⟨[(50, .f), (13, .i (l - b)), (12, .i (f + 2)), (11, .i 0), (9, .p 2), (7, .t), (6, .f), (3, .p 0), (2, .i n)], [(2, .cells (mm W (px (rtx xs s p q) ((s + 1) * 4294967296 + b) t f m) (py (rty ys s p q) ((s + 1) * 4294967296 + b) t f m) ++ [.i s, .i (b + (min n (l - b))), .i l, .i (b + (f + 2)), .i (b + (min n (l - b)))]) 54), (0, .cells (mm W xs ys ++ [.i s, .i b, .i l, .i p, .i q]) 54)], 3⟩ [(decide ((f + 2) ≤ (q - p))) = false] ⟨decide_eq_false (by omega), trivial⟩ ?_
        refine en ?_
        refine an ?_
        refine cf ?_
        refine xw_skip ?_
        refine an ?_
        refine xw_seq ?_
        refine reg ?_
        refine rk [(4, .t), (12, .t), (21, .f), (24, .f), (28, .bool (decide (4096 < n)))] 31 0 ⟨[(102, .bool (decide (4096 < n))), (90, .t), (11, .i 0), (6, .f)], [], 3⟩ [(decide ((f + 2) ≤ (l - b))) = true, True, True, (0 == 0) = true, True, True, (decide ((l - b) < (f + 2))) = false, (decide (n < 0)) = false, True, (decide (4096 < n)) = (decide (4096 < n)), True] ⟨decide_eq_true (by omega), trivial, trivial, beq_iff_eq.2 (by omega), trivial, trivial, decide_eq_false (by omega), decide_eq_false (by omega), trivial, rfl, trivial, trivial⟩ ?_
        refine splitr 102 (x := (decide (4096 < n))) (by kernel_rfl) (fun h17 => ?_) (fun h17 => ?_)
        ·
         replace h17 : 4096 < n := of_decide_eq_true h17
         refine rk [] 5 31 ⟨[(6, .t)], [], 3⟩ [True, True] ⟨trivial, trivial, trivial⟩ ?_
         refine en ?_
         refine an ?_
         refine xw_ret ?_
         exact bs (.t) rfl
        ·
         replace h17 : ¬ (4096 < n) := of_decide_eq_false h17
         refine rk [(32, .t)] 5 31 ⟨[(6, .t)], [], 3⟩ [(0 == 0) = true, True, True] ⟨beq_iff_eq.2 (by omega), trivial, trivial, trivial⟩ ?_
         refine en ?_
         refine an ?_
         refine xw_ret ?_
         exact bs (.t) rfl
  ·
   refine pc (rhright_2 t f m ‹_› ‹_› ‹_› ‹_›) ?_
   have h2 : (headErr t f m) ≠ 0 := headErr_ne (by omega) (by omega)
   refine rk [(5, .t)] 7 5 ⟨[(28, .t), (7, .t), (6, .f), (4, .p 1), (3, .p 0), (2, .i n)], [(1, .cells [.i t, .i f, .u m] 35), (0, .cells (mm W xs ys ++ [.i s, .i b, .i l, .i p, .i q]) 54)], 2⟩ [((headErr t f m) != 0) = true, True, True] ⟨bne_iff_ne.2 (by omega), trivial, trivial, trivial⟩ ?_
   refine en ?_
   refine an ?_
   refine ct ?_
   refine rg [] 2 ⟨[(6, .t), (7, .t), (4, .p 1), (3, .p 0), (2, .i n)], [(1, .cells [.i t, .i f, .u m] 35), (0, .cells (mm W xs ys ++ [.i s, .i b, .i l, .i p, .i q]) 54)], 2⟩ [] trivial ?_
   refine xw_ret ?_
   refine an_ret ?_
   exact bs (.t) rfl
 ·
  refine pc (few8_2 W xs ys s b l p q ‹_› ‹_› ‹_› ‹_› ‹_› ‹_› ‹_›) ?_
  refine rk [] 1 2 ⟨[(8, .f), (7, .t), (6, .f), (4, .p 1), (3, .p 0), (2, .i n)], [(1, .cells [.i t, .i f, .u m] 35), (0, .cells (mm W xs ys ++ [.i s, .i b, .i l, .i p, .i q]) 54)], 2⟩ [] trivial ?_
  refine en ?_
  refine an ?_
  refine xw_seq ?_
  refine rg [] 12 ⟨[(28, .t), (7, .t), (6, .f), (4, .p 1), (3, .p 0), (2, .i n)], [(1, .cells [.i t, .i f, .u m] 35), (0, .cells (mm W xs ys ++ [.i s, .i b, .i l, .i p, .i q]) 54)], 2⟩ [True, True] ⟨trivial, trivial, trivial⟩ ?_
  refine ct ?_
  refine rg [] 2 ⟨[(6, .t), (7, .t), (4, .p 1), (3, .p 0), (2, .i n)], [(1, .cells [.i t, .i f, .u m] 35), (0, .cells (mm W xs ys ++ [.i s, .i b, .i l, .i p, .i q]) 54)], 2⟩ [] trivial ?_
  refine xw_ret ?_
  refine an_ret ?_
  exact bs (.t) rfl

end Go.Proofs.Ytcjcljbhjkedgaa.X
