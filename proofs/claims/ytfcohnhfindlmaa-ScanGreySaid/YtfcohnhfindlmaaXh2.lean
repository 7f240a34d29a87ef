/- Contracts of Go functions: what each returns, for every input that its premises name; no memory of the caller is touched. Printed by a program. -/
import Derived.Test.YtfcohnhfindlmaaXf1
import Derived.Test.YtfcohnhfindlmaaXq10
namespace Go.Proofs.Ytfcohnhfindlmaa.X
open Go Go.RowKit
set_option linter.unusedVariables false      -- a premise may serve only to tell which way is taken
set_option linter.unusedSimpArgs false
theorem sgrey (W : Int) (xs : List Int) (ys : List Int) (s : Int) (b : Int) (l : Int) (p : Int) (q : Int) (o : Int) (hp0 : 16 ≤ W ∧ W ≤ 4096) (hp1 : (xs.length : Int) = W) (hp2 : (ys.length : Int) = W) (hp3 : U64s xs) (hp4 : U64s ys) (hp5 : (s = 0 ∨ s = 1) ∧ 0 ≤ b ∧ b ≤ l ∧ l ≤ 4096) (hp6 : l = W) (hp7 : 0 ≤ p ∧ p ≤ q ∧ q ≤ b) (hp8 : -9223372036854775808 ≤ o ∧ o ≤ 9223372036854775807) : Pub Try.prog 7 [.agg (mr W xs ys [.int .i64 s, .int .i64 b, .int .i64 l, .int .i64 p, .int .i64 q]), .int .i64 o] (fun rv => rv = .int .i64 (gry W xs ys s b o)) := by
 refine pub_of TT_ok Try.func7 rfl (by decide) (Nat.le_of_ble_eq_true (by kernel_rfl)) (by kernel_rfl) ?_
 refine rg [] 2 ⟨[(4, .i 0), (2, .p 0), (1, .i o)], [(0, .cells (mr W xs ys [.i s, .i b, .i l, .i p, .i q]) 31)], 1⟩ [] trivial ?_
 refine xw_seq ?_
 refine xw_seq ?_
 refine reg ?_
 refine rk [(1, .bool (decide (o < 0)))] 3 0 ⟨[(10, .bool (decide (o < 0))), (4, .i 0), (2, .p 0), (1, .i o)], [(0, .cells (mr W xs ys [.i s, .i b, .i l, .i p, .i q]) 31)], 1⟩ [(decide (o < 0)) = (decide (o < 0))] ⟨rfl, trivial⟩ ?_
 refine splitr 10 (x := (decide (o < 0))) (by kernel_rfl) (fun h0 => ?_) (fun h0 => ?_)
 ·
  replace h0 : o < 0 := of_decide_eq_true h0
  refine rk [] 6 3 ⟨[(16, .t), (4, .i 0), (2, .p 0), (1, .i o)], [(0, .cells (mr W xs ys [.i s, .i b, .i l, .i p, .i q]) 31)], 1⟩ [True] ⟨trivial, trivial⟩ ?_
  refine en ?_
  refine an ?_
  refine ct ?_
  refine rg [] 1 ⟨[(4, .i (-1)), (2, .p 0), (1, .i o)], [(0, .cells (mr W xs ys [.i s, .i b, .i l, .i p, .i q]) 31)], 1⟩ [] trivial ?_
  refine xw_ret ?_
  refine an_ret ?_
  exact bk_ret (.i (-1)) (.i (-1)) (.i (gry W xs ys s b o)) (by kernel_rfl) (by kernel_rfl) (wkd [((-1) : Int) = (gry W xs ys s b o)] (by kernel_rfl) ⟨(by first | rfl | omega | (have hq := gry_b1 (W := W) (xs := xs) (ys := ys) (s := s) (b := b) (p := p1) (by omega) (by omega) (by omega); omega) | (have hq := gry_b2 (W := W) (xs := xs) (ys := ys) (s := s) (b := b) (p := p1) (by omega) (by omega) (by omega) (by omega); omega) | (have hq := gry_b3 (W := W) (xs := xs) (ys := ys) (s := s) (b := b) (p := p1) (by omega) (by omega) (by omega) (by omega); omega) | (have hq := gry_end (W := W) (xs := xs) (ys := ys) (s := s) (b := b) (p := p1) (by omega) (by omega); omega) | (have hq := gry_out (W := W) (xs := xs) (ys := ys) (s := s) (b := b) (p := o) (by omega); omega)), trivial⟩) rfl
 ·
  replace h0 : ¬ (o < 0) := of_decide_eq_false h0
  refine rk [(7, .bool (decide (b < o)))] 6 3 ⟨[(16, .bool (decide (b < o))), (4, .i 0), (2, .p 0), (1, .i o)], [(0, .cells (mr W xs ys [.i s, .i b, .i l, .i p, .i q]) 31)], 1⟩ [True, (decide (b < o)) = (decide (b < o)), True] ⟨trivial, rfl, trivial, trivial⟩ ?_
  refine en ?_
  refine an ?_
  refine xw_cond (b := (decide (b < o))) (by kernel_rfl) (fun h1 => ?_) (fun h1 => ?_)
  ·
   replace h1 : b < o := of_decide_eq_true h1
   refine rg [] 1 ⟨[(4, .i (-1)), (2, .p 0), (1, .i o)], [(0, .cells (mr W xs ys [.i s, .i b, .i l, .i p, .i q]) 31)], 1⟩ [] trivial ?_
   refine xw_ret ?_
   refine an_ret ?_
   exact bk_ret (.i (-1)) (.i (-1)) (.i (gry W xs ys s b o)) (by kernel_rfl) (by kernel_rfl) (wkd [((-1) : Int) = (gry W xs ys s b o)] (by kernel_rfl) ⟨(by first | rfl | omega | (have hq := gry_b1 (W := W) (xs := xs) (ys := ys) (s := s) (b := b) (p := p1) (by omega) (by omega) (by omega); omega) | (have hq := gry_b2 (W := W) (xs := xs) (ys := ys) (s := s) (b := b) (p := p1) (by omega) (by omega) (by omega) (by omega); omega) | (have hq := gry_b3 (W := W) (xs := xs) (ys := ys) (s := s) (b := b) (p := p1) (by omega) (by omega) (by omega) (by omega); omega) | (have hq := gry_end (W := W) (xs := xs) (ys := ys) (s := s) (b := b) (p := p1) (by omega) (by omega); omega) | (have hq := gry_out (W := W) (xs := xs) (ys := ys) (s := s) (b := b) (p := o) (by omega); omega)), trivial⟩) rfl
  ·
   replace h1 : ¬ (b < o) := of_decide_eq_false h1
   refine xw_skip ?_
   refine an ?_
   refine rg [] 1 ⟨[(5, .i 0), (4, .i 0), (2, .p 0), (1, .i o)], [(0, .cells (mr W xs ys [.i s, .i b, .i l, .i p, .i q]) 31)], 1⟩ [] trivial ?_
   refine xw_seq ?_
   refine xw_block ?_
   refine xw_loop (α := {qq : Int × Int // (0 ≤ qq.1) ∧ (qq.1 ≤ b) ∧ (0 ≤ qq.2) ∧ (qq.2 ≤ qq.1) ∧ (((gry W xs ys s b qq.1) = -1 ∧ (gry W xs ys s b o) = -1) ∨ (0 ≤ (gry W xs ys s b qq.1) ∧ (gry W xs ys s b o) = qq.2 + (gry W xs ys s b qq.1)))}) (fun pp => ⟨[(5, .i pp.1.2), (4, .i 0), (2, .p 0), (1, .i pp.1.1)], [(0, .cells (mr W xs ys [.i s, .i b, .i l, .i p, .i q]) 31)], 1⟩) (fun pp => (b - pp.1.1).toNat) ⟨(o, 0), ⟨(by omega), (by omega), (by omega), (by omega), (show ((gry W xs ys s b o) = -1 ∧ (gry W xs ys s b o) = -1) ∨ (0 ≤ (gry W xs ys s b o) ∧ (gry W xs ys s b o) = 0 + (gry W xs ys s b o)) by first | omega | (have hq := gry_ge W xs ys s b o; omega) | (have hq := gry_n2 (W := W) (xs := xs) (ys := ys) (s := s) (b := b) (p := p1) (q := (p1 + (((ldw xs ys ((s + 1) * 4294967296 + p1) / 4294967296) % 16777216) + 1))) (by omega) (by omega) (by omega) (by omega) (by omega) (by omega); omega) | (have hq := gry_n3 (W := W) (xs := xs) (ys := ys) (s := s) (b := b) (p := p1) (q := (p1 + (((ldw xs ys ((s + 1) * 4294967296 + p1) / 4294967296) % 16777216) + 2))) (by omega) (by omega) (by omega) (by omega) (by omega) (by omega); omega))⟩⟩ (le_of [] [(0 : Int) = 0, (0 : Int) = 0, (o : Int) = o, (W : Int) = W, (false = true → false = true), ((m64 xs) : List SV) = (m64 xs), (false = true → false = true), ((m64 ys) : List SV) = (m64 ys), (s : Int) = s, (b : Int) = b, (l : Int) = l, (p : Int) = p, (q : Int) = q] (by kernel_rfl) ⟨rfl, rfl, rfl, rfl, id, rfl, id, rfl, rfl, rfl, rfl, rfl, rfl, trivial⟩) ?_
   rintro ⟨⟨p1, n1⟩, h2, h3, h4, h5, h6⟩
   try dsimp only at h2 h3 h4 h5 h6
   show XW _ _ _ _ _ _ ⟨[(5, .int .i64 n1), (4, .int .i64 0), (2, .loc 0 0), (1, .int .i64 p1)], [(0, .cells (mr W xs ys [.int .i64 s, .int .i64 b, .int .i64 l, .int .i64 p, .int .i64 q]) 31)], 1⟩
   have h7 : -1 ≤ (gry W xs ys s b p1) := gry_ge W xs ys s b p1
   refine xw_seq ?_
   refine rg [(4, .bool (decide (p1 < b)))] 5 ⟨[(21, .bool (decide (p1 < b))), (5, .i n1), (4, .i 0), (2, .p 0), (1, .i p1)], [(0, .cells (mr W xs ys [.i s, .i b, .i l, .i p, .i q]) 31)], 1⟩ [True, (decide (p1 < b)) = (decide (p1 < b))] ⟨trivial, rfl, trivial⟩ ?_
   refine xw_cond (b := (decide (p1 < b))) (by kernel_rfl) (fun h8 => ?_) (fun h8 => ?_)
   ·
    replace h8 : p1 < b := of_decide_eq_true h8
    refine xw_skip ?_
    refine an ?_
    refine xw_block ?_
    refine xw_seq ?_
    by_cases h9 : (oErr W xs ys ((s + 1) * 4294967296 + p1)) = 0
    ·
     refine sreg hmix [([(0, .cells (mr W xs ys [.i s, .i b, .i l, .i p, .i q]) 31)], 1), ([(1, .cells [.i 0, .i 0, .u 0] 43), (0, .cells (mr W xs ys [.i s, .i b, .i l, .i p, .i q]) 31)], 2), ([(1, .cells [.i (ldw xs ys ((s + 1) * 4294967296 + p1) / 72057594037927936), .i ((ldw xs ys ((s + 1) * 4294967296 + p1) / 4294967296) % 16777216), .u (ldw xs ys ((s + 1) * 4294967296 + p1) % 4294967296)] 43), (0, .cells (mr W xs ys [.i s, .i b, .i l, .i p, .i q]) 31)], 2)] [11, 12] [(1, [0]), (3, [2]), (4, [2, 3]), (6, [2, 3, 4, 5]), (7, [0, 1, 2, 3, 4, 5, 6]), (8, [0, 1, 2, 3, 4, 5, 6, 7]), (9, [0, 1, 2, 3, 4, 5, 6, 7, 8]), (10, [0, 1, 2, 3, 4, 5, 6, 7, 8]), (12, [0, 1, 2, 3, 4, 5, 6, 7, 8, 9, 11]), (13, [0, 1, 2, 3, 4, 5, 6, 7, 8, 9, 10, 11, 12])] (by kernel_rfl) (by kernel_rfl) (by kernel_rfl) (by kernel_rfl) (by kernel_rfl) ?_
     refine sr [] 6 0 [(28, .i p1), (27, .i s), (26, .loc 0 3), (25, .loc 0 3), (24, .agg (mm W xs ys)), (23, .p 0), (21, .bool (decide (p1 < b))), (5, .i n1), (4, .i 0), (2, .p 0), (1, .i p1)] [True, True, (SV.agg (mm W xs ys)) = SV.agg (mm W xs ys), True, True, True, True, (SV.int .i64 s) = SV.int .i64 s, True, True] ⟨trivial, trivial, rfl, trivial, trivial, trivial, trivial, rfl, trivial, trivial, trivial⟩ ?_
     refine sc (addr_1 s p1 (by omega)) ?_
     refine sc (oat_1 W xs ys ((s + 1) * 4294967296 + p1) ‹_› ‹_› ‹_› ‹_› ‹_› (by omega) ‹_›) ?_
     obtain ⟨h10, h11, h12⟩ := oErr_ok W xs ys ((s + 1) * 4294967296 + p1) ‹_›
     refine sr [] 6 8 [(7, .i 0), (6, .p 1), (32, .i 0), (31, .agg [.i (ldw xs ys ((s + 1) * 4294967296 + p1) / 72057594037927936), .i ((ldw xs ys ((s + 1) * 4294967296 + p1) / 4294967296) % 16777216), .u (ldw xs ys ((s + 1) * 4294967296 + p1) % 4294967296)]), (22, .tup [.agg [.i (ldw xs ys ((s + 1) * 4294967296 + p1) / 72057594037927936), .i ((ldw xs ys ((s + 1) * 4294967296 + p1) / 4294967296) % 16777216), .u (ldw xs ys ((s + 1) * 4294967296 + p1) % 4294967296)], .i 0]), (30, .tup [.agg [.i (ldw xs ys ((s + 1) * 4294967296 + p1) / 72057594037927936), .i ((ldw xs ys ((s + 1) * 4294967296 + p1) / 4294967296) % 16777216), .u (ldw xs ys ((s + 1) * 4294967296 + p1) % 4294967296)], .i 0]), (29, .u ((s + 1) * 4294967296 + p1)), (28, .i p1), (27, .i s), (26, .loc 0 3), (25, .loc 0 3), (24, .agg (mm W xs ys)), (23, .p 0), (21, .bool (decide (p1 < b))), (5, .i n1), (4, .i 0), (2, .p 0), (1, .i p1)] [True, True, True, True, ([(1, .cells [.i 0, .i 0, .u 0] 43), (0, .cells (mr W xs ys [.i s, .i b, .i l, .i p, .i q]) 31)] : Mem) = [(1, .cells [.i 0, .i 0, .u 0] 43), (0, .cells (mr W xs ys [.i s, .i b, .i l, .i p, .i q]) 31)], (2 : Nat) = 2, True, ([(1, .cells [.i (ldw xs ys ((s + 1) * 4294967296 + p1) / 72057594037927936), .i ((ldw xs ys ((s + 1) * 4294967296 + p1) / 4294967296) % 16777216), .u (ldw xs ys ((s + 1) * 4294967296 + p1) % 4294967296)] 43), (0, .cells (mr W xs ys [.i s, .i b, .i l, .i p, .i q]) 31)] : Mem) = [(1, .cells [.i (ldw xs ys ((s + 1) * 4294967296 + p1) / 72057594037927936), .i ((ldw xs ys ((s + 1) * 4294967296 + p1) / 4294967296) % 16777216), .u (ldw xs ys ((s + 1) * 4294967296 + p1) % 4294967296)] 43), (0, .cells (mr W xs ys [.i s, .i b, .i l, .i p, .i q]) 31)], (2 : Nat) = 2, True] ⟨trivial, trivial, trivial, trivial, rfl, rfl, trivial, rfl, rfl, trivial, trivial⟩ ?_
     refine sen ?_
     refine an ?_
     refine xw_seq ?_
     refine reg ?_
     refine rk [] 2 0 ⟨[(34, .agg [.i (hT xs ys ((s + 1) * 4294967296 + p1)), .i (hL xs ys ((s + 1) * 4294967296 + p1)), .u (hM xs ys ((s + 1) * 4294967296 + p1))]), (33, .i p1), (7, .i 0), (5, .i n1), (4, .i 0), (2, .p 0), (1, .i p1)], [(0, .cells (mr W xs ys [.i s, .i b, .i l, .i p, .i q]) 31)], 2⟩ [True] ⟨trivial, trivial⟩ ?_
     by_cases h13 : (ldw xs ys ((s + 1) * 4294967296 + p1) / 72057594037927936) = 255
     ·
      refine pc (hwords_1 (ldw xs ys ((s + 1) * 4294967296 + p1) / 72057594037927936) ((ldw xs ys ((s + 1) * 4294967296 + p1) / 4294967296) % 16777216) (ldw xs ys ((s + 1) * 4294967296 + p1) % 4294967296) (by omega) (by omega) (by omega) (by omega) ‹_›) ?_
      refine rk [(3, .i (p1 + (((ldw xs ys ((s + 1) * 4294967296 + p1) / 4294967296) % 16777216) + 1)))] 2 3 ⟨[(1, .i (p1 + ((hL xs ys ((s + 1) * 4294967296 + p1)) + 1))), (7, .i 0), (5, .i n1), (4, .i 0), (2, .p 0)], [(0, .cells (mr W xs ys [.i s, .i b, .i l, .i p, .i q]) 31)], 2⟩ [IntKind.i64.wrap (p1 + (((ldw xs ys ((s + 1) * 4294967296 + p1) / 4294967296) % 16777216) + 1)) = (p1 + (((ldw xs ys ((s + 1) * 4294967296 + p1) / 4294967296) % 16777216) + 1))] ⟨i64_eq (by omega) (by omega), trivial⟩ ?_
      refine en ?_
      refine an ?_
      refine xw_seq ?_
      refine rg [(1, .f), (7, .bool (decide (b < (p1 + (((ldw xs ys ((s + 1) * 4294967296 + p1) / 4294967296) % 16777216) + 1)))))] 9 ⟨[(45, .bool (decide (b < (p1 + ((hL xs ys ((s + 1) * 4294967296 + p1)) + 1))))), (1, .i (p1 + ((hL xs ys ((s + 1) * 4294967296 + p1)) + 1))), (5, .i n1), (4, .i 0), (2, .p 0)], [(0, .cells (mr W xs ys [.i s, .i b, .i l, .i p, .i q]) 31)], 2⟩ [(0 != 0) = false, True, (decide (b < (p1 + (((ldw xs ys ((s + 1) * 4294967296 + p1) / 4294967296) % 16777216) + 1)))) = (decide (b < (p1 + (((ldw xs ys ((s + 1) * 4294967296 + p1) / 4294967296) % 16777216) + 1)))), True] ⟨bne_eq_false_iff_eq.2 (by omega), trivial, rfl, trivial, trivial⟩ ?_
      refine xw_cond (b := (decide (b < (p1 + (((ldw xs ys ((s + 1) * 4294967296 + p1) / 4294967296) % 16777216) + 1))))) (by kernel_rfl) (fun h14 => ?_) (fun h14 => ?_)
      ·
       replace h14 : b < (p1 + (((ldw xs ys ((s + 1) * 4294967296 + p1) / 4294967296) % 16777216) + 1)) := of_decide_eq_true h14
       refine rg [] 1 ⟨[(4, .i (-1)), (1, .i (p1 + ((hL xs ys ((s + 1) * 4294967296 + p1)) + 1))), (5, .i n1), (2, .p 0)], [(0, .cells (mr W xs ys [.i s, .i b, .i l, .i p, .i q]) 31)], 2⟩ [] trivial ?_
       refine xw_ret ?_
       refine an_ret ?_
       refine ib_ret ?_
       refine ag_ret ?_
       refine ib_ret ?_
       refine an_ret ?_
       exact bk_ret (.i (-1)) (.i (-1)) (.i (gry W xs ys s b o)) (by kernel_rfl) (by kernel_rfl) (wkd [((-1) : Int) = (gry W xs ys s b o)] (by kernel_rfl) ⟨(by first | rfl | omega | (have hq := gry_b1 (W := W) (xs := xs) (ys := ys) (s := s) (b := b) (p := p1) (by omega) (by omega) (by omega); omega) | (have hq := gry_b2 (W := W) (xs := xs) (ys := ys) (s := s) (b := b) (p := p1) (by omega) (by omega) (by omega) (by omega); omega) | (have hq := gry_b3 (W := W) (xs := xs) (ys := ys) (s := s) (b := b) (p := p1) (by omega) (by omega) (by omega) (by omega); omega) | (have hq := gry_end (W := W) (xs := xs) (ys := ys) (s := s) (b := b) (p := p1) (by omega) (by omega); omega) | (have hq := gry_out (W := W) (xs := xs) (ys := ys) (s := s) (b := b) (p := o) (by omega); omega)), trivial⟩) rfl
      ·
       replace h14 : ¬ (b < (p1 + (((ldw xs ys ((s + 1) * 4294967296 + p1) / 4294967296) % 16777216) + 1))) := of_decide_eq_false h14
       refine xw_skip ?_
       refine an ?_
       refine re [(1, .i (n1 + 1))] 3 ⟨[(5, .i (n1 + 1)), (1, .i (p1 + ((hL xs ys ((s + 1) * 4294967296 + p1)) + 1))), (4, .i 0), (2, .p 0)], [(0, .cells (mr W xs ys [.i s, .i b, .i l, .i p, .i q]) 31)], 2⟩ [IntKind.i64.wrap (n1 + 1) = (n1 + 1)] ⟨i64_eq (by omega) (by omega), trivial⟩ ?_
       refine ib ?_
       exact ag ⟨((p1 + (((ldw xs ys ((s + 1) * 4294967296 + p1) / 4294967296) % 16777216) + 1)), (n1 + 1)), ⟨(by omega), (by omega), (by omega), (by omega), (show ((gry W xs ys s b (p1 + (((ldw xs ys ((s + 1) * 4294967296 + p1) / 4294967296) % 16777216) + 1))) = -1 ∧ (gry W xs ys s b o) = -1) ∨ (0 ≤ (gry W xs ys s b (p1 + (((ldw xs ys ((s + 1) * 4294967296 + p1) / 4294967296) % 16777216) + 1))) ∧ (gry W xs ys s b o) = (n1 + 1) + (gry W xs ys s b (p1 + (((ldw xs ys ((s + 1) * 4294967296 + p1) / 4294967296) % 16777216) + 1)))) by first | omega | (have hq := gry_ge W xs ys s b o; omega) | (have hq := gry_n2 (W := W) (xs := xs) (ys := ys) (s := s) (b := b) (p := p1) (q := (p1 + (((ldw xs ys ((s + 1) * 4294967296 + p1) / 4294967296) % 16777216) + 1))) (by omega) (by omega) (by omega) (by omega) (by omega) (by omega); omega) | (have hq := gry_n3 (W := W) (xs := xs) (ys := ys) (s := s) (b := b) (p := p1) (q := (p1 + (((ldw xs ys ((s + 1) * 4294967296 + p1) / 4294967296) % 16777216) + 2))) (by omega) (by omega) (by omega) (by omega) (by omega) (by omega); omega))⟩⟩ (le_of [] [((n1 + 1) : Int) = (n1 + 1), (0 : Int) = 0, ((p1 + (((ldw xs ys ((s + 1) * 4294967296 + p1) / 4294967296) % 16777216) + 1)) : Int) = (p1 + (((ldw xs ys ((s + 1) * 4294967296 + p1) / 4294967296) % 16777216) + 1)), (W : Int) = W, (false = true → false = true), ((m64 xs) : List SV) = (m64 xs), (false = true → false = true), ((m64 ys) : List SV) = (m64 ys), (s : Int) = s, (b : Int) = b, (l : Int) = l, (p : Int) = p, (q : Int) = q] (by kernel_rfl) ⟨rfl, rfl, rfl, rfl, id, rfl, id, rfl, rfl, rfl, rfl, rfl, rfl, trivial⟩) (by show (b - (p1 + (((ldw xs ys ((s + 1) * 4294967296 + p1) / 4294967296) % 16777216) + 1))).toNat < (b - p1).toNat; omega)
     ·
      refine pc (hwords_2 (ldw xs ys ((s + 1) * 4294967296 + p1) / 72057594037927936) ((ldw xs ys ((s + 1) * 4294967296 + p1) / 4294967296) % 16777216) (ldw xs ys ((s + 1) * 4294967296 + p1) % 4294967296) (by omega) (by omega) (by omega) (by omega) ‹_›) ?_
      refine rk [(3, .i (p1 + (((ldw xs ys ((s + 1) * 4294967296 + p1) / 4294967296) % 16777216) + 2)))] 2 3 ⟨[(1, .i (p1 + ((hL xs ys ((s + 1) * 4294967296 + p1)) + 2))), (7, .i 0), (5, .i n1), (4, .i 0), (2, .p 0)], [(0, .cells (mr W xs ys [.i s, .i b, .i l, .i p, .i q]) 31)], 2⟩ [IntKind.i64.wrap (p1 + (((ldw xs ys ((s + 1) * 4294967296 + p1) / 4294967296) % 16777216) + 2)) = (p1 + (((ldw xs ys ((s + 1) * 4294967296 + p1) / 4294967296) % 16777216) + 2))] ⟨i64_eq (by omega) (by omega), trivial⟩ ?_
      refine en ?_
      refine an ?_
      refine xw_seq ?_
      refine rg [(1, .f), (7, .bool (decide (b < (p1 + (((ldw xs ys ((s + 1) * 4294967296 + p1) / 4294967296) % 16777216) + 2)))))] 9 ⟨[(45, .bool (decide (b < (p1 + ((hL xs ys ((s + 1) * 4294967296 + p1)) + 2))))), (1, .i (p1 + ((hL xs ys ((s + 1) * 4294967296 + p1)) + 2))), (5, .i n1), (4, .i 0), (2, .p 0)], [(0, .cells (mr W xs ys [.i s, .i b, .i l, .i p, .i q]) 31)], 2⟩ [(0 != 0) = false, True, (decide (b < (p1 + (((ldw xs ys ((s + 1) * 4294967296 + p1) / 4294967296) % 16777216) + 2)))) = (decide (b < (p1 + (((ldw xs ys ((s + 1) * 4294967296 + p1) / 4294967296) % 16777216) + 2)))), True] ⟨bne_eq_false_iff_eq.2 (by omega), trivial, rfl, trivial, trivial⟩ ?_
      refine xw_cond (b := (decide (b < (p1 + (((ldw xs ys ((s + 1) * 4294967296 + p1) / 4294967296) % 16777216) + 2))))) (by kernel_rfl) (fun h14 => ?_) (fun h14 => ?_)
      ·
       replace h14 : b < (p1 + (((ldw xs ys ((s + 1) * 4294967296 + p1) / 4294967296) % 16777216) + 2)) := of_decide_eq_true h14
       refine rg [] 1 ⟨[(4, .i (-1)), (1, .i (p1 + ((hL xs ys ((s + 1) * 4294967296 + p1)) + 2))), (5, .i n1), (2, .p 0)], [(0, .cells (mr W xs ys [.i s, .i b, .i l, .i p, .i q]) 31)], 2⟩ [] trivial ?_
       refine xw_ret ?_
       refine an_ret ?_
       refine ib_ret ?_
       refine ag_ret ?_
       refine ib_ret ?_
       refine an_ret ?_
       exact bk_ret (.i (-1)) (.i (-1)) (.i (gry W xs ys s b o)) (by kernel_rfl) (by kernel_rfl) (wkd [((-1) : Int) = (gry W xs ys s b o)] (by kernel_rfl) ⟨(by first | rfl | omega | (have hq := gry_b1 (W := W) (xs := xs) (ys := ys) (s := s) (b := b) (p := p1) (by omega) (by omega) (by omega); omega) | (have hq := gry_b2 (W := W) (xs := xs) (ys := ys) (s := s) (b := b) (p := p1) (by omega) (by omega) (by omega) (by omega); omega) | (have hq := gry_b3 (W := W) (xs := xs) (ys := ys) (s := s) (b := b) (p := p1) (by omega) (by omega) (by omega) (by omega); omega) | (have hq := gry_end (W := W) (xs := xs) (ys := ys) (s := s) (b := b) (p := p1) (by omega) (by omega); omega) | (have hq := gry_out (W := W) (xs := xs) (ys := ys) (s := s) (b := b) (p := o) (by omega); omega)), trivial⟩) rfl
      ·
       replace h14 : ¬ (b < (p1 + (((ldw xs ys ((s + 1) * 4294967296 + p1) / 4294967296) % 16777216) + 2))) := of_decide_eq_false h14
       refine xw_skip ?_
       refine an ?_
       refine re [(1, .i (n1 + 1))] 3 ⟨[(5, .i (n1 + 1)), (1, .i (p1 + ((hL xs ys ((s + 1) * 4294967296 + p1)) + 2))), (4, .i 0), (2, .p 0)], [(0, .cells (mr W xs ys [.i s, .i b, .i l, .i p, .i q]) 31)], 2⟩ [IntKind.i64.wrap (n1 + 1) = (n1 + 1)] ⟨i64_eq (by omega) (by omega), trivial⟩ ?_
       refine ib ?_
       exact ag ⟨((p1 + (((ldw xs ys ((s + 1) * 4294967296 + p1) / 4294967296) % 16777216) + 2)), (n1 + 1)), ⟨(by omega), (by omega), (by omega), (by omega), (show ((gry W xs ys s b (p1 + (((ldw xs ys ((s + 1) * 4294967296 + p1) / 4294967296) % 16777216) + 2))) = -1 ∧ (gry W xs ys s b o) = -1) ∨ (0 ≤ (gry W xs ys s b (p1 + (((ldw xs ys ((s + 1) * 4294967296 + p1) / 4294967296) % 16777216) + 2))) ∧ (gry W xs ys s b o) = (n1 + 1) + (gry W xs ys s b (p1 + (((ldw xs ys ((s + 1) * 4294967296 + p1) / 4294967296) % 16777216) + 2)))) by first | omega | (have hq := gry_ge W xs ys s b o; omega) | (have hq := gry_n2 (W := W) (xs := xs) (ys := ys) (s := s) (b := b) (p := p1) (q := (p1 + (((ldw xs ys ((s + 1) * 4294967296 + p1) / 4294967296) % 16777216) + 1))) (by omega) (by omega) (by omega) (by omega) (by omega) (by omega); omega) | (have hq := gry_n3 (W := W) (xs := xs) (ys := ys) (s := s) (b := b) (p := p1) (q := (p1 + (((ldw xs ys ((s + 1) * 4294967296 + p1) / 4294967296) % 16777216) + 2))) (by omega) (by omega) (by omega) (by omega) (by omega) (by omega); omega))⟩⟩ (le_of [] [((n1 + 1) : Int) = (n1 + 1), (0 : Int) = 0, ((p1 + (((ldw xs ys ((s + 1) * 4294967296 + p1) / 4294967296) % 16777216) + 2)) : Int) = (p1 + (((ldw xs ys ((s + 1) * 4294967296 + p1) / 4294967296) % 16777216) + 2)), (W : Int) = W, (false = true → false = true), ((m64 xs) : List SV) = (m64 xs), (false = true → false = true), ((m64 ys) : List SV) = (m64 ys), (s : Int) = s, (b : Int) = b, (l : Int) = l, (p : Int) = p, (q : Int) = q] (by kernel_rfl) ⟨rfl, rfl, rfl, rfl, id, rfl, id, rfl, rfl, rfl, rfl, rfl, rfl, trivial⟩) (by show (b - (p1 + (((ldw xs ys ((s + 1) * 4294967296 + p1) / 4294967296) % 16777216) + 2))).toNat < (b - p1).toNat; omega)
    ·
     refine sreg hmix [([(0, .cells (mr W xs ys [.i s, .i b, .i l, .i p, .i q]) 31)], 1), ([(1, .cells [.i 0, .i 0, .u 0] 43), (0, .cells (mr W xs ys [.i s, .i b, .i l, .i p, .i q]) 31)], 2), ([(1, .cells [.i 0, .i 0, .u 0] 43), (0, .cells (mr W xs ys [.i s, .i b, .i l, .i p, .i q]) 31)], 2)] [11, 12] [(1, [0]), (3, [2]), (4, [2, 3]), (6, [2, 3, 4, 5]), (7, [0, 1, 2, 3, 4, 5, 6]), (8, [0, 1, 2, 3, 4, 5, 6, 7]), (9, [0, 1, 2, 3, 4, 5, 6, 7, 8]), (10, [0, 1, 2, 3, 4, 5, 6, 7, 8]), (12, [0, 1, 2, 3, 4, 5, 6, 7, 8, 9, 11]), (13, [0, 1, 2, 3, 4, 5, 6, 7, 8, 9, 10, 11, 12])] (by kernel_rfl) (by kernel_rfl) (by kernel_rfl) (by kernel_rfl) (by kernel_rfl) ?_
     refine sr [] 6 0 [(28, .i p1), (27, .i s), (26, .loc 0 3), (25, .loc 0 3), (24, .agg (mm W xs ys)), (23, .p 0), (21, .bool (decide (p1 < b))), (5, .i n1), (4, .i 0), (2, .p 0), (1, .i p1)] [True, True, (SV.agg (mm W xs ys)) = SV.agg (mm W xs ys), True, True, True, True, (SV.int .i64 s) = SV.int .i64 s, True, True] ⟨trivial, trivial, rfl, trivial, trivial, trivial, trivial, rfl, trivial, trivial, trivial⟩ ?_
     refine sc (addr_1 s p1 (by omega)) ?_
     refine sc (oat_2 W xs ys ((s + 1) * 4294967296 + p1) ‹_› ‹_› ‹_› ‹_› ‹_› (by omega) ‹_›) ?_
     have h10 : (oErr W xs ys ((s + 1) * 4294967296 + p1)) = 2 ∨ (oErr W xs ys ((s + 1) * 4294967296 + p1)) = 10 := oErr_no W xs ys ((s + 1) * 4294967296 + p1) (by omega)
     refine sr [] 6 8 [(7, .i (oErr W xs ys ((s + 1) * 4294967296 + p1))), (6, .p 1), (32, .i (oErr W xs ys ((s + 1) * 4294967296 + p1))), (31, .agg [.i 0, .i 0, .u 0]), (22, .tup [.agg [.i 0, .i 0, .u 0], .i (oErr W xs ys ((s + 1) * 4294967296 + p1))]), (30, .tup [.agg [.i 0, .i 0, .u 0], .i (oErr W xs ys ((s + 1) * 4294967296 + p1))]), (29, .u ((s + 1) * 4294967296 + p1)), (28, .i p1), (27, .i s), (26, .loc 0 3), (25, .loc 0 3), (24, .agg (mm W xs ys)), (23, .p 0), (21, .bool (decide (p1 < b))), (5, .i n1), (4, .i 0), (2, .p 0), (1, .i p1)] [True, True, True, True, ([(1, .cells [.i 0, .i 0, .u 0] 43), (0, .cells (mr W xs ys [.i s, .i b, .i l, .i p, .i q]) 31)] : Mem) = [(1, .cells [.i 0, .i 0, .u 0] 43), (0, .cells (mr W xs ys [.i s, .i b, .i l, .i p, .i q]) 31)], (2 : Nat) = 2, True, ([(1, .cells [.i 0, .i 0, .u 0] 43), (0, .cells (mr W xs ys [.i s, .i b, .i l, .i p, .i q]) 31)] : Mem) = [(1, .cells [.i 0, .i 0, .u 0] 43), (0, .cells (mr W xs ys [.i s, .i b, .i l, .i p, .i q]) 31)], (2 : Nat) = 2, True] ⟨trivial, trivial, trivial, trivial, rfl, rfl, trivial, rfl, rfl, trivial, trivial⟩ ?_
     refine sen ?_
     refine an ?_
     refine xw_seq ?_
     refine reg ?_
     refine rk [] 2 0 ⟨[(34, .agg [.i 0, .i 0, .u 0]), (33, .i p1), (7, .i (oErr W xs ys ((s + 1) * 4294967296 + p1))), (5, .i n1), (4, .i 0), (2, .p 0), (1, .i p1)], [(0, .cells (mr W xs ys [.i s, .i b, .i l, .i p, .i q]) 31)], 2⟩ [True] ⟨trivial, trivial⟩ ?_
     refine pc (hwords_2 0 0 0 (by omega) (by omega) (by omega) (by omega) (by omega)) ?_
     refine rk [(3, .i (p1 + (0 + 2)))] 2 3 ⟨[(1, .i (p1 + (0 + 2))), (7, .i (oErr W xs ys ((s + 1) * 4294967296 + p1))), (5, .i n1), (4, .i 0), (2, .p 0)], [(0, .cells (mr W xs ys [.i s, .i b, .i l, .i p, .i q]) 31)], 2⟩ [IntKind.i64.wrap (p1 + (0 + 2)) = (p1 + (0 + 2))] ⟨i64_eq (by omega) (by omega), trivial⟩ ?_
     refine en ?_
     refine an ?_
     refine xw_seq ?_
     refine rg [(1, .t)] 9 ⟨[(45, .t), (1, .i (p1 + (0 + 2))), (5, .i n1), (4, .i 0), (2, .p 0)], [(0, .cells (mr W xs ys [.i s, .i b, .i l, .i p, .i q]) 31)], 2⟩ [((oErr W xs ys ((s + 1) * 4294967296 + p1)) != 0) = true, True] ⟨bne_iff_ne.2 (by omega), trivial, trivial⟩ ?_
     refine ct ?_
     refine rg [] 1 ⟨[(4, .i (-1)), (1, .i (p1 + (0 + 2))), (5, .i n1), (2, .p 0)], [(0, .cells (mr W xs ys [.i s, .i b, .i l, .i p, .i q]) 31)], 2⟩ [] trivial ?_
     refine xw_ret ?_
     refine an_ret ?_
     refine ib_ret ?_
     refine ag_ret ?_
     refine ib_ret ?_
     refine an_ret ?_
     exact bk_ret (.i (-1)) (.i (-1)) (.i (gry W xs ys s b o)) (by kernel_rfl) (by kernel_rfl) (wkd [((-1) : Int) = (gry W xs ys s b o)] (by kernel_rfl) ⟨(by first | rfl | omega | (have hq := gry_b1 (W := W) (xs := xs) (ys := ys) (s := s) (b := b) (p := p1) (by omega) (by omega) (by omega); omega) | (have hq := gry_b2 (W := W) (xs := xs) (ys := ys) (s := s) (b := b) (p := p1) (by omega) (by omega) (by omega) (by omega); omega) | (have hq := gry_b3 (W := W) (xs := xs) (ys := ys) (s := s) (b := b) (p := p1) (by omega) (by omega) (by omega) (by omega); omega) | (have hq := gry_end (W := W) (xs := xs) (ys := ys) (s := s) (b := b) (p := p1) (by omega) (by omega); omega) | (have hq := gry_out (W := W) (xs := xs) (ys := ys) (s := s) (b := b) (p := o) (by omega); omega)), trivial⟩) rfl
   ·
    replace h8 : ¬ (p1 < b) := of_decide_eq_false h8
    refine xw_exit ?_
    refine an_exit ?_
    refine ag_exit ?_
    refine ib_same ?_
    refine an ?_
    refine rg [] 2 ⟨[(4, .i n1)], [], 1⟩ [] trivial ?_
    refine xw_ret ?_
    exact bk_ret (.i n1) (.i n1) (.i (gry W xs ys s b o)) (by kernel_rfl) (by kernel_rfl) (wkd [(n1 : Int) = (gry W xs ys s b o)] (by kernel_rfl) ⟨(by first | rfl | omega | (have hq := gry_b1 (W := W) (xs := xs) (ys := ys) (s := s) (b := b) (p := p1) (by omega) (by omega) (by omega); omega) | (have hq := gry_b2 (W := W) (xs := xs) (ys := ys) (s := s) (b := b) (p := p1) (by omega) (by omega) (by omega) (by omega); omega) | (have hq := gry_b3 (W := W) (xs := xs) (ys := ys) (s := s) (b := b) (p := p1) (by omega) (by omega) (by omega) (by omega); omega) | (have hq := gry_end (W := W) (xs := xs) (ys := ys) (s := s) (b := b) (p := p1) (by omega) (by omega); omega) | (have hq := gry_out (W := W) (xs := xs) (ys := ys) (s := s) (b := b) (p := o) (by omega); omega)), trivial⟩) rfl

end Go.Proofs.Ytfcohnhfindlmaa.X
