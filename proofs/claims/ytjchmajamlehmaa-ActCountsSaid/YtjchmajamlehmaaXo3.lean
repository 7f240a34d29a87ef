/- Contracts of Go functions: what each returns, for every input that its premises name; no memory of the caller is touched. Printed by a program. -/
import Derived.Test.YtjchmajamlehmaaXn9
namespace Go.Proofs.Ytjchmajamlehmaa.X
open Go Go.RowKit
set_option linter.unusedVariables false      -- a premise may serve only to tell which way is taken
set_option linter.unusedSimpArgs false
theorem wget (W : Int) (xs ys : List Int) (f0 f1 f2 t0 t1 t2 sz lm : Int) (ts : List Th) (ph scn fl : Int) (os : List Int) (brk : Int) (st : List Int) (b0 b1 : Int) (lg : List Ent) (lf : List OpV) (pd : List Ent) (wt : Bool) (dn : List AnsV) (k h i j v t f m : Int) (hp0 : 16 ≤ W ∧ W ≤ 4096) (hp1 : (xs.length : Int) = W) (hp2 : (ys.length : Int) = W) (hp3 : U64s xs) (hp4 : U64s ys) (hp5 : 0 ≤ f0 ∧ f0 ≤ 1) (hp6 : 0 ≤ f1 ∧ f1 ≤ f2) (hp7 : f2 = W) (hp8 : 0 ≤ sz ∧ sz ≤ 4096) (hp9 : U64s st) (hp10 : (st.length : Int) * 8 ≤ 140737488355000) (hp11 : (b0 = 0 ∧ b1 = 0) ∨ (0 ≤ b0 ∧ b0 ≤ b1 ∧ b1 ≤ f1)) (hp12 : Ents pd) (hp13 : (pd.length : Int) = 0) (hp14 : k = 2) (hp15 : -9223372036854775808 ≤ h ∧ h ≤ 9223372036854775807) (hp16 : -9223372036854775808 ≤ i ∧ i ≤ 9223372036854775807) : MCall Try.prog 33 [.p 1] [(0, .cells (bx W xs ys f0 f1 f2 t0 t1 t2 sz lm ts ph scn fl os brk st b0 b1 lg lf pd wt dn k h i j v t f m 0 0 false false) 65), (1, .cells [.p 0] 63)] 2 2 (fun zx zm => (∃ X1 : List Int, ∃ Y1 : List Int, ∃ F1 : Int, ∃ st1 : List Int, ∃ p1 : Int, ∃ q1 : Int, ∃ pd1 : List Ent, ∃ e1 : Int, ∃ v1 : Int, ∃ yes1 : Bool, ∃ wt1 : Bool, (JF k ph h i W f1 f2 xs ys st X1 Y1 F1 st1 p1 q1 pd1 e1 v1 wt1) ∧ zx = .tup [] ∧ zm = [(0, .cells (bx W X1 Y1 f0 F1 f2 t0 t1 t2 sz lm ts ph scn fl os brk st1 p1 q1 lg lf pd1 wt dn k h i j v t f m e1 v1 yes1 wt1) 65), (1, .cells [.p 0] 63)])) := by
 refine mcall_of (by kernel_rfl) (by kernel_rfl) (xcall_of TT_ok Try.func33 rfl (by decide) (Nat.le_of_ble_eq_true (by kernel_rfl)) ?_)
 refine xw_seq ?_
 refine reg ?_
 refine rki [] 1 0 [5, 0] [0, 1] [True] ⟨trivial, trivial⟩ ?_
 refine mcall2 (d := (some 6)) [0] (wfield W xs ys f0 f1 f2 t0 t1 t2 sz lm ts ph scn fl os brk st b0 b1 lg lf pd wt dn k h i j v t f m false ‹_› ‹_› ‹_› ‹_› ‹_› ‹_› (by omega) ‹_› ‹_›) ⟨by kernel_rfl, trivial⟩ ?_ ?_
 · rintro _ _ (⟨_, _, rfl, rfl⟩ | ⟨_, _, _, rfl, rfl⟩) <;> kernel_rfl
 ·
  rintro _ _ (⟨e1, h1, rfl, rfl⟩ | ⟨v1, h1, h2, rfl, rfl⟩)
  ·
   refine mst ⟨[(6, .tup [.u 0, .u 0, .f]), (5, .p 0), (0, .p 1)], [(0, .cells (bx W xs ys f0 f1 f2 t0 t1 t2 sz lm ts ph scn fl os brk st b0 b1 lg lf pd wt dn k h i j v t f m e1 0 false false) 65), (1, .cells [.p 0] 63)], 2⟩ ?_
   have h2 : 0 ≤ (ix st h) ∧ (ix st h) ≤ 18446744073709551615 := U64s.ix ‹_› _
   refine rki [] 7 2 [3, 2, 0] [0, 1] [] trivial ?_
   refine en ?_
   refine an ?_
   refine rgi [] 1 [10, 2, 0] [0, 1] [] trivial ?_
   refine cf ?_
   refine xw_skip ?_
   exact ⟨.tup [], by kernel_rfl, _, ⟨xs, ys, f1, st, b0, b1, pd, e1, 0, false, false, (by first | rfl | exact jf_rd | exact jf_wr | exact jf_al | omega | assumption), rfl, rfl⟩, rfl, le_cutm ⟨by kernel_rfl, by kernel_rfl, trivial⟩⟩
  ·
   refine mst ⟨[(6, .tup [.u (ix st h), .u v1, .t]), (5, .p 0), (0, .p 1)], [(0, .cells (bx W xs ys f0 f1 f2 t0 t1 t2 sz lm ts ph scn fl os brk st b0 b1 lg lf pd wt dn k h i j v t f m 0 0 false false) 65), (1, .cells [.p 0] 63)], 2⟩ ?_
   have h3 : 0 ≤ (ix st h) ∧ (ix st h) ≤ 18446744073709551615 := U64s.ix ‹_› _
   refine rki [] 7 2 [3, 2, 0] [0, 1] [] trivial ?_
   refine en ?_
   refine an ?_
   refine rgi [] 1 [10, 2, 0] [0, 1] [] trivial ?_
   refine ct ?_
   refine rei [] 6 [] [0, 1] [True, True, True] ⟨trivial, trivial, trivial, trivial⟩ ?_
   exact ⟨.tup [], by kernel_rfl, _, ⟨xs, ys, f1, st, b0, b1, pd, 0, v1, false, false, (by first | rfl | exact jf_rd | exact jf_wr | exact jf_al | omega | assumption), rfl, rfl⟩, rfl, le_cutm ⟨by kernel_rfl, by kernel_rfl, trivial⟩⟩

theorem wfollow (W : Int) (xs ys : List Int) (f0 f1 f2 t0 t1 t2 sz lm : Int) (ts : List Th) (ph scn fl : Int) (os : List Int) (brk : Int) (st : List Int) (b0 b1 : Int) (lg : List Ent) (lf : List OpV) (pd : List Ent) (wt : Bool) (dn : List AnsV) (k h i j v t f m : Int) (hp0 : 16 ≤ W ∧ W ≤ 4096) (hp1 : (xs.length : Int) = W) (hp2 : (ys.length : Int) = W) (hp3 : U64s xs) (hp4 : U64s ys) (hp5 : 0 ≤ f0 ∧ f0 ≤ 1) (hp6 : 0 ≤ f1 ∧ f1 ≤ f2) (hp7 : f2 = W) (hp8 : 0 ≤ sz ∧ sz ≤ 4096) (hp9 : U64s st) (hp10 : (st.length : Int) * 8 ≤ 140737488355000) (hp11 : (b0 = 0 ∧ b1 = 0) ∨ (0 ≤ b0 ∧ b0 ≤ b1 ∧ b1 ≤ f1)) (hp12 : Ents pd) (hp13 : (pd.length : Int) = 0) (hp14 : k = 3) (hp15 : -9223372036854775808 ≤ h ∧ h ≤ 9223372036854775807) (hp16 : -9223372036854775808 ≤ i ∧ i ≤ 9223372036854775807) : MCall Try.prog 35 [.p 1] [(0, .cells (bx W xs ys f0 f1 f2 t0 t1 t2 sz lm ts ph scn fl os brk st b0 b1 lg lf pd wt dn k h i j v t f m 0 0 false false) 65), (1, .cells [.p 0] 63)] 2 2 (fun zx zm => (∃ X1 : List Int, ∃ Y1 : List Int, ∃ F1 : Int, ∃ st1 : List Int, ∃ p1 : Int, ∃ q1 : Int, ∃ pd1 : List Ent, ∃ e1 : Int, ∃ v1 : Int, ∃ yes1 : Bool, ∃ wt1 : Bool, (JF k ph h i W f1 f2 xs ys st X1 Y1 F1 st1 p1 q1 pd1 e1 v1 wt1) ∧ zx = .tup [] ∧ zm = [(0, .cells (bx W X1 Y1 f0 F1 f2 t0 t1 t2 sz lm ts ph scn fl os brk st1 p1 q1 lg lf pd1 wt dn k h i j v t f m e1 v1 yes1 wt1) 65), (1, .cells [.p 0] 63)])) := by
 refine mcall_of (by kernel_rfl) (by kernel_rfl) (xcall_of TT_ok Try.func35 rfl (by decide) (Nat.le_of_ble_eq_true (by kernel_rfl)) ?_)
 refine xw_seq ?_
 refine reg ?_
 refine rki [] 1 0 [5, 0] [0, 1] [True] ⟨trivial, trivial⟩ ?_
 refine mcall2 (d := (some 6)) [0] (wfield W xs ys f0 f1 f2 t0 t1 t2 sz lm ts ph scn fl os brk st b0 b1 lg lf pd wt dn k h i j v t f m true ‹_› ‹_› ‹_› ‹_› ‹_› ‹_› (by omega) ‹_› ‹_›) ⟨by kernel_rfl, trivial⟩ ?_ ?_
 · rintro _ _ (⟨_, _, rfl, rfl⟩ | ⟨_, _, _, rfl, rfl⟩) <;> kernel_rfl
 ·
  rintro _ _ (⟨e1, h1, rfl, rfl⟩ | ⟨v1, h1, h2, rfl, rfl⟩)
  ·
   refine mst ⟨[(6, .tup [.u 0, .u 0, .f]), (5, .p 0), (0, .p 1)], [(0, .cells (bx W xs ys f0 f1 f2 t0 t1 t2 sz lm ts ph scn fl os brk st b0 b1 lg lf pd wt dn k h i j v t f m e1 0 false false) 65), (1, .cells [.p 0] 63)], 2⟩ ?_
   have h2 : 0 ≤ (ix st h) ∧ (ix st h) ≤ 18446744073709551615 := U64s.ix ‹_› _
   refine rki [] 7 2 [3, 2, 0] [0, 1] [] trivial ?_
   refine en ?_
   refine an ?_
   refine rgi [] 1 [10, 2, 0] [0, 1] [] trivial ?_
   refine cf ?_
   refine xw_skip ?_
   exact ⟨.tup [], by kernel_rfl, _, ⟨xs, ys, f1, st, b0, b1, pd, e1, 0, false, false, (by first | rfl | exact jf_rd | exact jf_wr | exact jf_al | omega | assumption), rfl, rfl⟩, rfl, le_cutm ⟨by kernel_rfl, by kernel_rfl, trivial⟩⟩
  ·
   refine mst ⟨[(6, .tup [.u (ix st h), .u v1, .t]), (5, .p 0), (0, .p 1)], [(0, .cells (bx W xs ys f0 f1 f2 t0 t1 t2 sz lm ts ph scn fl os brk st b0 b1 lg lf pd wt dn k h i j v t f m 0 0 false false) 65), (1, .cells [.p 0] 63)], 2⟩ ?_
   have h3 : 0 ≤ (ix st h) ∧ (ix st h) ≤ 18446744073709551615 := U64s.ix ‹_› _
   refine rki [] 7 2 [3, 2, 0] [0, 1] [] trivial ?_
   refine en ?_
   refine an ?_
   refine rgi [] 1 [10, 2, 0] [0, 1] [] trivial ?_
   refine ct ?_
   refine reg ?_
   refine rki [] 2 0 [12, 11] [0, 1] [True] ⟨trivial, trivial⟩ ?_
   refine mcall2 (d := (some 13)) [0] (wpushh W xs ys f0 f1 f2 t0 t1 t2 sz lm ts ph scn fl os brk st b0 b1 lg lf pd wt dn k h i j v t f m v1 ‹_› (by omega) ‹_›) ⟨by kernel_rfl, trivial⟩ ?_ ?_
   · rintro _ _ (⟨_, _, _, _, _, rfl, rfl⟩) <;> kernel_rfl
   ·
    rintro _ _ (⟨st1, e1, h6, h7, h8, rfl, rfl⟩)
    refine mst ⟨[(13, .tup []), (12, .u v1), (11, .p 0)], [(0, .cells (bx W xs ys f0 f1 f2 t0 t1 t2 sz lm ts ph scn fl os brk st1 b0 b1 lg lf pd wt dn k h i j v t f m e1 0 false false) 65), (1, .cells [.p 0] 63)], 2⟩ ?_
    refine en ?_
    exact ⟨.tup [], by kernel_rfl, _, ⟨xs, ys, f1, st1, b0, b1, pd, e1, 0, false, false, (by first | rfl | exact jf_rd | exact jf_wr | exact jf_al | omega | assumption), rfl, rfl⟩, rfl, le_cutm ⟨by kernel_rfl, by kernel_rfl, trivial⟩⟩

theorem wlink (W : Int) (xs ys : List Int) (f0 f1 f2 t0 t1 t2 sz lm : Int) (ts : List Th) (ph scn fl : Int) (os : List Int) (brk : Int) (st : List Int) (b0 b1 : Int) (lg : List Ent) (lf : List OpV) (pd : List Ent) (wt : Bool) (dn : List AnsV) (k h i j v t f m : Int) (hp0 : 16 ≤ W ∧ W ≤ 4096) (hp1 : (xs.length : Int) = W) (hp2 : (ys.length : Int) = W) (hp3 : U64s xs) (hp4 : U64s ys) (hp5 : 0 ≤ f0 ∧ f0 ≤ 1) (hp6 : 0 ≤ f1 ∧ f1 ≤ f2) (hp7 : f2 = W) (hp8 : 0 ≤ sz ∧ sz ≤ 4096) (hp9 : U64s st) (hp10 : (st.length : Int) * 8 ≤ 140737488355000) (hp11 : (b0 = 0 ∧ b1 = 0) ∨ (0 ≤ b0 ∧ b0 ≤ b1 ∧ b1 ≤ f1)) (hp12 : Ents pd) (hp13 : (pd.length : Int) = 0) (hp14 : k = 5) (hp15 : -9223372036854775808 ≤ h ∧ h ≤ 9223372036854775807) (hp16 : -9223372036854775808 ≤ i ∧ i ≤ 9223372036854775807) (hp17 : -9223372036854775808 ≤ j ∧ j ≤ 9223372036854775807) : MCall Try.prog 38 [.p 1] [(0, .cells (bx W xs ys f0 f1 f2 t0 t1 t2 sz lm ts ph scn fl os brk st b0 b1 lg lf pd wt dn k h i j v t f m 0 0 false false) 65), (1, .cells [.p 0] 63)] 2 2 (fun zx zm => (∃ X1 : List Int, ∃ Y1 : List Int, ∃ F1 : Int, ∃ st1 : List Int, ∃ p1 : Int, ∃ q1 : Int, ∃ pd1 : List Ent, ∃ e1 : Int, ∃ v1 : Int, ∃ yes1 : Bool, ∃ wt1 : Bool, (JF k ph h i W f1 f2 xs ys st X1 Y1 F1 st1 p1 q1 pd1 e1 v1 wt1) ∧ zx = .tup [] ∧ zm = [(0, .cells (bx W X1 Y1 f0 F1 f2 t0 t1 t2 sz lm ts ph scn fl os brk st1 p1 q1 lg lf pd1 wt dn k h i j v t f m e1 v1 yes1 wt1) 65), (1, .cells [.p 0] 63)])) := by
 refine mcall_of (by kernel_rfl) (by kernel_rfl) (xcall_of TT_ok Try.func38 rfl (by decide) (Nat.le_of_ble_eq_true (by kernel_rfl)) ?_)
 have h0 : 0 ≤ (ix st h) ∧ (ix st h) ≤ 18446744073709551615 := U64s.ix ‹_› _
 have h1 : 0 ≤ (ix st j) ∧ (ix st j) ≤ 18446744073709551615 := U64s.ix ‹_› _
 refine xw_seq ?_
 refine reg ?_
 refine rki [] 1 0 [7, 0] [0, 1] [True] ⟨trivial, trivial⟩ ?_
 refine mcall2 (d := (some 8)) [0] (wfield W xs ys f0 f1 f2 t0 t1 t2 sz lm ts ph scn fl os brk st b0 b1 lg lf pd wt dn k h i j v t f m true ‹_› ‹_› ‹_› ‹_› ‹_› ‹_› (by omega) ‹_› ‹_›) ⟨by kernel_rfl, trivial⟩ ?_ ?_
 · rintro _ _ (⟨_, _, rfl, rfl⟩ | ⟨_, _, _, rfl, rfl⟩) <;> kernel_rfl
 ·
  rintro _ _ (⟨e1, h3, rfl, rfl⟩ | ⟨v1, h3, h4, rfl, rfl⟩)
  ·
   refine mst ⟨[(8, .tup [.u 0, .u 0, .f]), (7, .p 0), (0, .p 1)], [(0, .cells (bx W xs ys f0 f1 f2 t0 t1 t2 sz lm ts ph scn fl os brk st b0 b1 lg lf pd wt dn k h i j v t f m e1 0 false false) 65), (1, .cells [.p 0] 63)], 2⟩ ?_
   have h4 : 0 ≤ (ix st h) ∧ (ix st h) ≤ 18446744073709551615 := U64s.ix ‹_› _
   refine rki [] 7 2 [3, 1, 0] [0, 1] [] trivial ?_
   refine en ?_
   refine an ?_
   refine xw_seq ?_
   refine rgi [] 2 [13, 1, 0] [0, 1] [] trivial ?_
   refine ct ?_
   refine xw_ret ?_
   refine an_ret ?_
   exact ⟨.tup [], by kernel_rfl, _, ⟨xs, ys, f1, st, b0, b1, pd, e1, 0, false, false, (by first | rfl | exact jf_rd | exact jf_wr | exact jf_al | omega | assumption), rfl, rfl⟩, rfl, le_cutm ⟨by kernel_rfl, by kernel_rfl, trivial⟩⟩
  ·
   refine mst ⟨[(8, .tup [.u (ix st h), .u v1, .t]), (7, .p 0), (0, .p 1)], [(0, .cells (bx W xs ys f0 f1 f2 t0 t1 t2 sz lm ts ph scn fl os brk st b0 b1 lg lf pd wt dn k h i j v t f m 0 0 false false) 65), (1, .cells [.p 0] 63)], 2⟩ ?_
   have h5 : 0 ≤ (ix st h) ∧ (ix st h) ≤ 18446744073709551615 := U64s.ix ‹_› _
   refine rki [] 7 2 [3, 1, 0] [0, 1] [] trivial ?_
   refine en ?_
   refine an ?_
   refine xw_seq ?_
   refine rgi [] 2 [13, 1, 0] [0, 1] [] trivial ?_
   refine cf ?_
   refine xw_skip ?_
   refine an ?_
   refine xw_seq ?_
   by_cases h6 : 0 ≤ j ∧ j < ((st).length : Int)
   ·
    refine sreg hmix [([(0, .cells (bx W xs ys f0 f1 f2 t0 t1 t2 sz lm ts ph scn fl os brk st b0 b1 lg lf pd wt dn k h i j v t f m 0 0 false false) 65), (1, .cells [.p 0] 63)], 2), ([(0, .cells (bx W xs ys f0 f1 f2 t0 t1 t2 sz lm ts ph scn fl os brk st b0 b1 lg lf pd wt dn k h i j v t f m 0 0 false false) 65), (1, .cells [.p 0] 63)], 2)] [6] [(2, [1]), (3, [1, 2]), (4, [1, 2, 3]), (5, [1, 2, 3, 4]), (6, [0, 1, 2, 3, 4, 5]), (7, [0, 1, 2, 3, 4, 5, 6]), (8, [0, 1, 2, 3, 4, 5, 6, 7]), (9, [0, 1, 2, 3, 4, 5, 6, 7]), (10, [0, 1, 2, 3, 4, 5, 6, 7, 8]), (11, [0, 1, 2, 3, 4, 5, 6, 7, 8, 9, 10])] (by kernel_rfl) (by kernel_rfl) (by kernel_rfl) (by kernel_rfl) (by kernel_rfl) ?_
    refine sri [] 6 0 [True, True, True, True, True, True] ⟨trivial, trivial, trivial, trivial, trivial, trivial, trivial⟩ ?_
    refine scallw (f := 39) (args := [.p 0, .i j]) (d := (some 21)) (sv := .tup [.u (ix st j), .t]) 0 (m := [(0, .cells (bx W xs ys f0 f1 f2 t0 t1 t2 sz lm ts ph scn fl os brk st b0 b1 lg lf pd wt dn k h i j v t f m 0 0 false false) 65), (1, .cells [.p 0] 63)]) (n := 2) (m' := [(0, .cells (bx W xs ys f0 f1 f2 t0 t1 t2 sz lm ts ph scn fl os brk st b0 b1 lg lf pd wt dn k h i j v t f m 0 0 false false) 65), (1, .cells [.p 0] 63)]) (n' := 2) (by kernel_rfl) (by kernel_rfl) (by kernel_rfl) (by kernel_rfl) (xcall_of TT_ok Try.func39 rfl (by decide) (Nat.le_of_ble_eq_true (by kernel_rfl)) ?_) ?_
    ·
     refine rg [] 2 ⟨[(5, .f), (4, .u 0), (0, .p 0), (1, .i j)], [(0, .cells (bx W xs ys f0 f1 f2 t0 t1 t2 sz lm ts ph scn fl os brk st b0 b1 lg lf pd wt dn k h i j v t f m 0 0 false false) 65), (1, .cells [.p 0] 63)], 2⟩ [] trivial ?_
     refine xw_seq ?_
     refine reg ?_
     refine rki [] 6 0 [14, 13, 5, 4, 0] [0, 1] [True, True] ⟨trivial, trivial, trivial⟩ ?_
     refine pc (sget_2 st j (by omega) ‹_› ‹_› ‹_›) ?_
     refine rki [] 5 7 [7, 6, 5, 4, 0] [0, 1] [] trivial ?_
     refine en ?_
     refine an ?_
     refine xw_seq ?_
     refine reg ?_
     refine rki [] 3 0 [20, 19, 18, 5, 4] [0, 1] [] trivial ?_
     refine callx (f := 23) (args := [.p 0, .i 0]) (d := (some 21)) (by kernel_rfl) (xcall_of TT_ok Try.func23 rfl (by decide) (Nat.le_of_ble_eq_true (by kernel_rfl)) ?_)
     refine rg [] 1 ⟨[(4, .f), (0, .p 0), (1, .i 0)], [(0, .cells (bx W xs ys f0 f1 f2 t0 t1 t2 sz lm ts ph scn fl os brk st b0 b1 lg lf pd wt dn k h i j v t f m 0 0 false false) 65), (1, .cells [.p 0] 63)], 2⟩ [] trivial ?_
     refine rgi [] 6 [4, 1] [0, 1] [True, True] ⟨trivial, trivial, trivial⟩ ?_
     refine rgi [(1, .t)] 3 [4] [0, 1] [(0 == 0) = true] ⟨beq_iff_eq.2 (by omega), trivial⟩ ?_
     refine xw_ret ?_
     refine ⟨.t, by kernel_rfl, ?_⟩
     refine rk [] 2 4 ⟨[(5, .t), (4, .u (ix st j))], [(0, .cells (bx W xs ys f0 f1 f2 t0 t1 t2 sz lm ts ph scn fl os brk st b0 b1 lg lf pd wt dn k h i j v t f m 0 0 false false) 65), (1, .cells [.p 0] 63)], 2⟩ [] trivial ?_
     refine en ?_
     refine an ?_
     refine xw_ret ?_
     exact ⟨.tup [.u (ix st j), .t], by kernel_rfl, rfl, rfl, rfl⟩
    ·
     refine sri [] 5 7 [True, True, True, True, True] ⟨trivial, trivial, trivial, trivial, trivial, trivial⟩ ?_
     refine sen ?_
     refine an ?_
     refine rg [] 1 ⟨[(24, .t), (4, .u (ix st j)), (1, .u (ix st h)), (0, .p 1)], [(0, .cells (bx W xs ys f0 f1 f2 t0 t1 t2 sz lm ts ph scn fl os brk st b0 b1 lg lf pd wt dn k h i j v t f m 0 0 false false) 65), (1, .cells [.p 0] 63)], 2⟩ [] trivial ?_
     refine ct ?_
     refine reg ?_
     refine rki [] 3 0 [27, 26, 25] [0, 1] [True] ⟨trivial, trivial⟩ ?_
     refine mcall2 (d := (some 28)) [0] (wset W xs ys f0 f1 f2 t0 t1 t2 sz lm ts ph scn fl os brk st b0 b1 lg lf pd wt dn k h i j v t f m (ix st h) (ix st j) ‹_› ‹_› ‹_› ‹_› ‹_› ‹_› ‹_› ‹_›) ⟨by kernel_rfl, trivial⟩ ?_ ?_
     · rintro _ _ (⟨_, _, _, _, _, _, _, _, rfl, rfl⟩) <;> kernel_rfl
     ·
      rintro _ _ (⟨X1, Y1, pd1, h10, h11, h12, h13, h14, rfl, rfl⟩)
      refine mst ⟨[(28, .tup []), (27, .u (ix st j)), (26, .u (ix st h)), (25, .p 0)], [(0, .cells (bx W X1 Y1 f0 f1 f2 t0 t1 t2 sz lm ts ph scn fl os brk st b0 b1 lg lf pd1 wt dn k h i j v t f m 0 0 false false) 65), (1, .cells [.p 0] 63)], 2⟩ ?_
      refine en ?_
      exact ⟨.tup [], by kernel_rfl, _, ⟨X1, Y1, f1, st, b0, b1, pd1, 0, 0, false, false, (by first | rfl | exact jf_rd | exact jf_wr | exact jf_al | omega | assumption), rfl, rfl⟩, rfl, le_cutm ⟨by kernel_rfl, by kernel_rfl, trivial⟩⟩
   ·
    refine sreg hmix [([(0, .cells (bx W xs ys f0 f1 f2 t0 t1 t2 sz lm ts ph scn fl os brk st b0 b1 lg lf pd wt dn k h i j v t f m 0 0 false false) 65), (1, .cells [.p 0] 63)], 2), ([(0, .cells (bx W xs ys f0 f1 f2 t0 t1 t2 sz lm ts ph scn fl os brk st b0 b1 lg lf pd wt dn k h i j v t f m 5 0 false false) 65), (1, .cells [.p 0] 63)], 2)] [6] [(2, [1]), (3, [1, 2]), (4, [1, 2, 3]), (5, [1, 2, 3, 4]), (6, [0, 1, 2, 3, 4, 5]), (7, [0, 1, 2, 3, 4, 5, 6]), (8, [0, 1, 2, 3, 4, 5, 6, 7]), (9, [0, 1, 2, 3, 4, 5, 6, 7]), (10, [0, 1, 2, 3, 4, 5, 6, 7, 8]), (11, [0, 1, 2, 3, 4, 5, 6, 7, 8, 9, 10])] (by kernel_rfl) (by kernel_rfl) (by kernel_rfl) (by kernel_rfl) (by kernel_rfl) ?_
    refine sri [] 6 0 [True, True, True, True, True, True] ⟨trivial, trivial, trivial, trivial, trivial, trivial, trivial⟩ ?_
    refine scallw (f := 39) (args := [.p 0, .i j]) (d := (some 21)) (sv := .tup [.u 0, .f]) 0 (m := [(0, .cells (bx W xs ys f0 f1 f2 t0 t1 t2 sz lm ts ph scn fl os brk st b0 b1 lg lf pd wt dn k h i j v t f m 0 0 false false) 65), (1, .cells [.p 0] 63)]) (n := 2) (m' := [(0, .cells (bx W xs ys f0 f1 f2 t0 t1 t2 sz lm ts ph scn fl os brk st b0 b1 lg lf pd wt dn k h i j v t f m 5 0 false false) 65), (1, .cells [.p 0] 63)]) (n' := 2) (by kernel_rfl) (by kernel_rfl) (by kernel_rfl) (by kernel_rfl) (xcall_of TT_ok Try.func39 rfl (by decide) (Nat.le_of_ble_eq_true (by kernel_rfl)) ?_) ?_
    ·
     refine rg [] 2 ⟨[(5, .f), (4, .u 0), (0, .p 0), (1, .i j)], [(0, .cells (bx W xs ys f0 f1 f2 t0 t1 t2 sz lm ts ph scn fl os brk st b0 b1 lg lf pd wt dn k h i j v t f m 0 0 false false) 65), (1, .cells [.p 0] 63)], 2⟩ [] trivial ?_
     refine xw_seq ?_
     refine reg ?_
     refine rki [] 6 0 [14, 13, 5, 4, 0] [0, 1] [True, True] ⟨trivial, trivial, trivial⟩ ?_
     refine pc (sget_1 st j (by omega) ‹_› ‹_› ‹_›) ?_
     refine rki [] 5 7 [7, 6, 5, 4, 0] [0, 1] [] trivial ?_
     refine en ?_
     refine an ?_
     refine xw_seq ?_
     refine reg ?_
     refine rki [] 3 0 [20, 19, 18, 5, 4] [0, 1] [] trivial ?_
     refine callx (f := 23) (args := [.p 0, .i 5]) (d := (some 21)) (by kernel_rfl) (xcall_of TT_ok Try.func23 rfl (by decide) (Nat.le_of_ble_eq_true (by kernel_rfl)) ?_)
     refine rg [] 1 ⟨[(4, .f), (0, .p 0), (1, .i 5)], [(0, .cells (bx W xs ys f0 f1 f2 t0 t1 t2 sz lm ts ph scn fl os brk st b0 b1 lg lf pd wt dn k h i j v t f m 0 0 false false) 65), (1, .cells [.p 0] 63)], 2⟩ [] trivial ?_
     refine rgi [] 6 [4, 1] [0, 1] [True, True] ⟨trivial, trivial, trivial⟩ ?_
     refine rgi [(1, .f)] 3 [4] [0, 1] [(5 == 0) = false] ⟨beq_eq_false_iff_ne.2 (by omega), trivial⟩ ?_
     refine xw_ret ?_
     refine ⟨.f, by kernel_rfl, ?_⟩
     refine rk [] 2 4 ⟨[(5, .f), (4, .u 0)], [(0, .cells (bx W xs ys f0 f1 f2 t0 t1 t2 sz lm ts ph scn fl os brk st b0 b1 lg lf pd wt dn k h i j v t f m 5 0 false false) 65), (1, .cells [.p 0] 63)], 2⟩ [] trivial ?_
     refine en ?_
     refine an ?_
     refine xw_ret ?_
     exact ⟨.tup [.u 0, .f], by kernel_rfl, rfl, rfl, rfl⟩
    ·
     refine sri [] 5 7 [True, True, True, True, True] ⟨trivial, trivial, trivial, trivial, trivial, trivial⟩ ?_
     refine sen ?_
     refine an ?_
     refine rg [] 1 ⟨[(24, .f), (4, .u 0), (1, .u (ix st h)), (0, .p 1)], [(0, .cells (bx W xs ys f0 f1 f2 t0 t1 t2 sz lm ts ph scn fl os brk st b0 b1 lg lf pd wt dn k h i j v t f m 5 0 false false) 65), (1, .cells [.p 0] 63)], 2⟩ [] trivial ?_
     refine cf ?_
     refine xw_skip ?_
     exact ⟨.tup [], by kernel_rfl, _, ⟨xs, ys, f1, st, b0, b1, pd, 5, 0, false, false, (by first | rfl | exact jf_rd | exact jf_wr | exact jf_al | omega | assumption), rfl, rfl⟩, rfl, le_cutm ⟨by kernel_rfl, by kernel_rfl, trivial⟩⟩

theorem wsame (W : Int) (xs ys : List Int) (f0 f1 f2 t0 t1 t2 sz lm : Int) (ts : List Th) (ph scn fl : Int) (os : List Int) (brk : Int) (st : List Int) (b0 b1 : Int) (lg : List Ent) (lf : List OpV) (pd : List Ent) (wt : Bool) (dn : List AnsV) (k h i j v t f m : Int) (hp0 : 16 ≤ W ∧ W ≤ 4096) (hp1 : (xs.length : Int) = W) (hp2 : (ys.length : Int) = W) (hp3 : U64s xs) (hp4 : U64s ys) (hp5 : 0 ≤ f0 ∧ f0 ≤ 1) (hp6 : 0 ≤ f1 ∧ f1 ≤ f2) (hp7 : f2 = W) (hp8 : 0 ≤ sz ∧ sz ≤ 4096) (hp9 : U64s st) (hp10 : (st.length : Int) * 8 ≤ 140737488355000) (hp11 : (b0 = 0 ∧ b1 = 0) ∨ (0 ≤ b0 ∧ b0 ≤ b1 ∧ b1 ≤ f1)) (hp12 : Ents pd) (hp13 : (pd.length : Int) = 0) (hp14 : k = 8) (hp15 : -9223372036854775808 ≤ h ∧ h ≤ 9223372036854775807) (hp16 : -9223372036854775808 ≤ j ∧ j ≤ 9223372036854775807) : MCall Try.prog 41 [.p 1] [(0, .cells (bx W xs ys f0 f1 f2 t0 t1 t2 sz lm ts ph scn fl os brk st b0 b1 lg lf pd wt dn k h i j v t f m 0 0 false false) 65), (1, .cells [.p 0] 63)] 2 2 (fun zx zm => (∃ X1 : List Int, ∃ Y1 : List Int, ∃ F1 : Int, ∃ st1 : List Int, ∃ p1 : Int, ∃ q1 : Int, ∃ pd1 : List Ent, ∃ e1 : Int, ∃ v1 : Int, ∃ yes1 : Bool, ∃ wt1 : Bool, (JF k ph h i W f1 f2 xs ys st X1 Y1 F1 st1 p1 q1 pd1 e1 v1 wt1) ∧ zx = .tup [] ∧ zm = [(0, .cells (bx W X1 Y1 f0 F1 f2 t0 t1 t2 sz lm ts ph scn fl os brk st1 p1 q1 lg lf pd1 wt dn k h i j v t f m e1 v1 yes1 wt1) 65), (1, .cells [.p 0] 63)])) := by
 refine mcall_of (by kernel_rfl) (by kernel_rfl) (xcall_of TT_ok Try.func41 rfl (by decide) (Nat.le_of_ble_eq_true (by kernel_rfl)) ?_)
 refine xw_seq ?_
 by_cases h0 : 0 ≤ h ∧ h < ((st).length : Int)
 ·
  refine sreg hmix [([(0, .cells (bx W xs ys f0 f1 f2 t0 t1 t2 sz lm ts ph scn fl os brk st b0 b1 lg lf pd wt dn k h i j v t f m 0 0 false false) 65), (1, .cells [.p 0] 63)], 2), ([(0, .cells (bx W xs ys f0 f1 f2 t0 t1 t2 sz lm ts ph scn fl os brk st b0 b1 lg lf pd wt dn k h i j v t f m 0 0 false false) 65), (1, .cells [.p 0] 63)], 2)] [6] [(2, [1]), (3, [1, 2]), (4, [1, 2, 3]), (5, [1, 2, 3, 4]), (6, [0, 1, 2, 3, 4, 5]), (7, [0, 1, 2, 3, 4, 5, 6]), (8, [0, 1, 2, 3, 4, 5, 6, 7]), (9, [0, 1, 2, 3, 4, 5, 6, 7]), (10, [0, 1, 2, 3, 4, 5, 6, 7, 8]), (11, [0, 1, 2, 3, 4, 5, 6, 7, 8, 9, 10])] (by kernel_rfl) (by kernel_rfl) (by kernel_rfl) (by kernel_rfl) (by kernel_rfl) ?_
  refine sri [] 6 0 [True, True, True, True, True, True] ⟨trivial, trivial, trivial, trivial, trivial, trivial, trivial⟩ ?_
  refine scallw (f := 39) (args := [.p 0, .i h]) (d := (some 12)) (sv := .tup [.u (ix st h), .t]) 0 (m := [(0, .cells (bx W xs ys f0 f1 f2 t0 t1 t2 sz lm ts ph scn fl os brk st b0 b1 lg lf pd wt dn k h i j v t f m 0 0 false false) 65), (1, .cells [.p 0] 63)]) (n := 2) (m' := [(0, .cells (bx W xs ys f0 f1 f2 t0 t1 t2 sz lm ts ph scn fl os brk st b0 b1 lg lf pd wt dn k h i j v t f m 0 0 false false) 65), (1, .cells [.p 0] 63)]) (n' := 2) (by kernel_rfl) (by kernel_rfl) (by kernel_rfl) (by kernel_rfl) (xcall_of TT_ok Try.func39 rfl (by decide) (Nat.le_of_ble_eq_true (by kernel_rfl)) ?_) ?_
  ·
   refine rgi [] 2 [5, 4, 0, 1] [0, 1] [] trivial ?_
   refine xw_seq ?_
   refine reg ?_
   refine rki [] 6 0 [14, 13, 5, 4, 0] [0, 1] [True, True] ⟨trivial, trivial, trivial⟩ ?_
   refine pc (sget_2 st h (by omega) ‹_› ‹_› ‹_›) ?_
   refine rk [] 5 7 ⟨[(7, .i 0), (6, .u (ix st h)), (5, .f), (4, .u 0), (0, .p 0)], [(0, .cells (bx W xs ys f0 f1 f2 t0 t1 t2 sz lm ts ph scn fl os brk st b0 b1 lg lf pd wt dn k h i j v t f m 0 0 false false) 65), (1, .cells [.p 0] 63)], 2⟩ [] trivial ?_
   refine en ?_
   refine an ?_
   refine xw_seq ?_
   refine reg ?_
   refine rki [] 3 0 [20, 19, 18, 5, 4] [0, 1] [] trivial ?_
   refine callx (f := 23) (args := [.p 0, .i 0]) (d := (some 21)) (by kernel_rfl) (xcall_of TT_ok Try.func23 rfl (by decide) (Nat.le_of_ble_eq_true (by kernel_rfl)) ?_)
   refine rgi [] 1 [4, 0, 1] [0, 1] [] trivial ?_
   refine rgi [] 6 [4, 1] [0, 1] [True, True] ⟨trivial, trivial, trivial⟩ ?_
   refine rg [(1, .t)] 3 ⟨[(4, .t)], [(0, .cells (bx W xs ys f0 f1 f2 t0 t1 t2 sz lm ts ph scn fl os brk st b0 b1 lg lf pd wt dn k h i j v t f m 0 0 false false) 65), (1, .cells [.p 0] 63)], 2⟩ [(0 == 0) = true] ⟨beq_iff_eq.2 (by omega), trivial⟩ ?_
   refine xw_ret ?_
   refine ⟨.t, by kernel_rfl, ?_⟩
   refine rki [] 2 4 [5, 4] [0, 1] [] trivial ?_
   refine en ?_
   refine an ?_
   refine xw_ret ?_
   exact ⟨.tup [.u (ix st h), .t], by kernel_rfl, rfl, rfl, rfl⟩
  ·
   refine sri [] 5 7 [True, True, True, True, True] ⟨trivial, trivial, trivial, trivial, trivial, trivial⟩ ?_
   refine sen ?_
   refine an ?_
   refine xw_seq ?_
   refine rgi [] 2 [16, 1, 0] [0, 1] [] trivial ?_
   refine cf ?_
   refine xw_skip ?_
   refine an ?_
   refine xw_seq ?_
   by_cases h1 : 0 ≤ j ∧ j < ((st).length : Int)
   ·
    refine sreg hmix [([(0, .cells (bx W xs ys f0 f1 f2 t0 t1 t2 sz lm ts ph scn fl os brk st b0 b1 lg lf pd wt dn k h i j v t f m 0 0 false false) 65), (1, .cells [.p 0] 63)], 2), ([(0, .cells (bx W xs ys f0 f1 f2 t0 t1 t2 sz lm ts ph scn fl os brk st b0 b1 lg lf pd wt dn k h i j v t f m 0 0 false false) 65), (1, .cells [.p 0] 63)], 2)] [6] [(2, [1]), (3, [1, 2]), (4, [1, 2, 3]), (5, [1, 2, 3, 4]), (6, [0, 1, 2, 3, 4, 5]), (7, [0, 1, 2, 3, 4, 5, 6]), (8, [0, 1, 2, 3, 4, 5, 6, 7]), (9, [0, 1, 2, 3, 4, 5, 6, 7]), (10, [0, 1, 2, 3, 4, 5, 6, 7, 8]), (11, [0, 1, 2, 3, 4, 5, 6, 7, 8, 9, 10])] (by kernel_rfl) (by kernel_rfl) (by kernel_rfl) (by kernel_rfl) (by kernel_rfl) ?_
    refine sri [] 6 0 [True, True, True, True, True, True] ⟨trivial, trivial, trivial, trivial, trivial, trivial, trivial⟩ ?_
    refine scallw (f := 39) (args := [.p 0, .i j]) (d := (some 24)) (sv := .tup [.u (ix st j), .t]) 0 (m := [(0, .cells (bx W xs ys f0 f1 f2 t0 t1 t2 sz lm ts ph scn fl os brk st b0 b1 lg lf pd wt dn k h i j v t f m 0 0 false false) 65), (1, .cells [.p 0] 63)]) (n := 2) (m' := [(0, .cells (bx W xs ys f0 f1 f2 t0 t1 t2 sz lm ts ph scn fl os brk st b0 b1 lg lf pd wt dn k h i j v t f m 0 0 false false) 65), (1, .cells [.p 0] 63)]) (n' := 2) (by kernel_rfl) (by kernel_rfl) (by kernel_rfl) (by kernel_rfl) (xcall_of TT_ok Try.func39 rfl (by decide) (Nat.le_of_ble_eq_true (by kernel_rfl)) ?_) ?_
    ·
     refine rg [] 2 ⟨[(5, .f), (4, .u 0), (0, .p 0), (1, .i j)], [(0, .cells (bx W xs ys f0 f1 f2 t0 t1 t2 sz lm ts ph scn fl os brk st b0 b1 lg lf pd wt dn k h i j v t f m 0 0 false false) 65), (1, .cells [.p 0] 63)], 2⟩ [] trivial ?_
     refine xw_seq ?_
     refine reg ?_
     refine rki [] 6 0 [14, 13, 5, 4, 0] [0, 1] [True, True] ⟨trivial, trivial, trivial⟩ ?_
     refine pc (sget_2 st j (by omega) ‹_› ‹_› ‹_›) ?_
     refine rki [] 5 7 [7, 6, 5, 4, 0] [0, 1] [] trivial ?_
     refine en ?_
     refine an ?_
     refine xw_seq ?_
     refine reg ?_
     refine rki [] 3 0 [20, 19, 18, 5, 4] [0, 1] [] trivial ?_
     refine callx (f := 23) (args := [.p 0, .i 0]) (d := (some 21)) (by kernel_rfl) (xcall_of TT_ok Try.func23 rfl (by decide) (Nat.le_of_ble_eq_true (by kernel_rfl)) ?_)
     refine rg [] 1 ⟨[(4, .f), (0, .p 0), (1, .i 0)], [(0, .cells (bx W xs ys f0 f1 f2 t0 t1 t2 sz lm ts ph scn fl os brk st b0 b1 lg lf pd wt dn k h i j v t f m 0 0 false false) 65), (1, .cells [.p 0] 63)], 2⟩ [] trivial ?_
     refine rgi [] 6 [4, 1] [0, 1] [True, True] ⟨trivial, trivial, trivial⟩ ?_
     refine rgi [(1, .t)] 3 [4] [0, 1] [(0 == 0) = true] ⟨beq_iff_eq.2 (by omega), trivial⟩ ?_
     refine xw_ret ?_
     refine ⟨.t, by kernel_rfl, ?_⟩
     refine rk [] 2 4 ⟨[(5, .t), (4, .u (ix st j))], [(0, .cells (bx W xs ys f0 f1 f2 t0 t1 t2 sz lm ts ph scn fl os brk st b0 b1 lg lf pd wt dn k h i j v t f m 0 0 false false) 65), (1, .cells [.p 0] 63)], 2⟩ [] trivial ?_
     refine en ?_
     refine an ?_
     refine xw_ret ?_
     exact ⟨.tup [.u (ix st j), .t], by kernel_rfl, rfl, rfl, rfl⟩
    ·
     refine sri [] 5 7 [True, True, True, True, True] ⟨trivial, trivial, trivial, trivial, trivial, trivial⟩ ?_
     refine sen ?_
     refine an ?_
     refine rg [] 1 ⟨[(27, .t), (3, .u (ix st j)), (1, .u (ix st h)), (0, .p 1)], [(0, .cells (bx W xs ys f0 f1 f2 t0 t1 t2 sz lm ts ph scn fl os brk st b0 b1 lg lf pd wt dn k h i j v t f m 0 0 false false) 65), (1, .cells [.p 0] 63)], 2⟩ [] trivial ?_
     refine ct ?_
     refine rei [(3, .bool ((ix st h) == (ix st j)))] 8 [] [0, 1] [True, sm ((ix st h) == (ix st j)), True, True] ⟨trivial, rfl, trivial, trivial, trivial⟩ ?_
     exact ⟨.tup [], by kernel_rfl, _, ⟨xs, ys, f1, st, b0, b1, pd, 0, 0, ((ix st h) == (ix st j)), false, (by first | rfl | exact jf_rd | exact jf_wr | exact jf_al | omega | assumption), rfl, rfl⟩, rfl, le_cutm ⟨by kernel_rfl, by kernel_rfl, trivial⟩⟩
   ·
    refine sreg hmix [([(0, .cells (bx W xs ys f0 f1 f2 t0 t1 t2 sz lm ts ph scn fl os brk st b0 b1 lg lf pd wt dn k h i j v t f m 0 0 false false) 65), (1, .cells [.p 0] 63)], 2), ([(0, .cells (bx W xs ys f0 f1 f2 t0 t1 t2 sz lm ts ph scn fl os brk st b0 b1 lg lf pd wt dn k h i j v t f m 5 0 false false) 65), (1, .cells [.p 0] 63)], 2)] [6] [(2, [1]), (3, [1, 2]), (4, [1, 2, 3]), (5, [1, 2, 3, 4]), (6, [0, 1, 2, 3, 4, 5]), (7, [0, 1, 2, 3, 4, 5, 6]), (8, [0, 1, 2, 3, 4, 5, 6, 7]), (9, [0, 1, 2, 3, 4, 5, 6, 7]), (10, [0, 1, 2, 3, 4, 5, 6, 7, 8]), (11, [0, 1, 2, 3, 4, 5, 6, 7, 8, 9, 10])] (by kernel_rfl) (by kernel_rfl) (by kernel_rfl) (by kernel_rfl) (by kernel_rfl) ?_
    refine sri [] 6 0 [True, True, True, True, True, True] ⟨trivial, trivial, trivial, trivial, trivial, trivial, trivial⟩ ?_
    refine scallw (f := 39) (args := [.p 0, .i j]) (d := (some 24)) (sv := .tup [.u 0, .f]) 0 (m := [(0, .cells (bx W xs ys f0 f1 f2 t0 t1 t2 sz lm ts ph scn fl os brk st b0 b1 lg lf pd wt dn k h i j v t f m 0 0 false false) 65), (1, .cells [.p 0] 63)]) (n := 2) (m' := [(0, .cells (bx W xs ys f0 f1 f2 t0 t1 t2 sz lm ts ph scn fl os brk st b0 b1 lg lf pd wt dn k h i j v t f m 5 0 false false) 65), (1, .cells [.p 0] 63)]) (n' := 2) (by kernel_rfl) (by kernel_rfl) (by kernel_rfl) (by kernel_rfl) (xcall_of TT_ok Try.func39 rfl (by decide) (Nat.le_of_ble_eq_true (by kernel_rfl)) ?_) ?_
    ·
     refine rg [] 2 ⟨[(5, .f), (4, .u 0), (0, .p 0), (1, .i j)], [(0, .cells (bx W xs ys f0 f1 f2 t0 t1 t2 sz lm ts ph scn fl os brk st b0 b1 lg lf pd wt dn k h i j v t f m 0 0 false false) 65), (1, .cells [.p 0] 63)], 2⟩ [] trivial ?_
     refine xw_seq ?_
     refine reg ?_
     refine rki [] 6 0 [14, 13, 5, 4, 0] [0, 1] [True, True] ⟨trivial, trivial, trivial⟩ ?_
     refine pc (sget_1 st j (by omega) ‹_› ‹_› ‹_›) ?_
     refine rki [] 5 7 [7, 6, 5, 4, 0] [0, 1] [] trivial ?_
     refine en ?_
     refine an ?_
     refine xw_seq ?_
     refine reg ?_
     refine rki [] 3 0 [20, 19, 18, 5, 4] [0, 1] [] trivial ?_
     refine callx (f := 23) (args := [.p 0, .i 5]) (d := (some 21)) (by kernel_rfl) (xcall_of TT_ok Try.func23 rfl (by decide) (Nat.le_of_ble_eq_true (by kernel_rfl)) ?_)
     refine rg [] 1 ⟨[(4, .f), (0, .p 0), (1, .i 5)], [(0, .cells (bx W xs ys f0 f1 f2 t0 t1 t2 sz lm ts ph scn fl os brk st b0 b1 lg lf pd wt dn k h i j v t f m 0 0 false false) 65), (1, .cells [.p 0] 63)], 2⟩ [] trivial ?_
     refine rgi [] 6 [4, 1] [0, 1] [True, True] ⟨trivial, trivial, trivial⟩ ?_
     refine rgi [(1, .f)] 3 [4] [0, 1] [(5 == 0) = false] ⟨beq_eq_false_iff_ne.2 (by omega), trivial⟩ ?_
     refine xw_ret ?_
     refine ⟨.f, by kernel_rfl, ?_⟩
     refine rk [] 2 4 ⟨[(5, .f), (4, .u 0)], [(0, .cells (bx W xs ys f0 f1 f2 t0 t1 t2 sz lm ts ph scn fl os brk st b0 b1 lg lf pd wt dn k h i j v t f m 5 0 false false) 65), (1, .cells [.p 0] 63)], 2⟩ [] trivial ?_
     refine en ?_
     refine an ?_
     refine xw_ret ?_
     exact ⟨.tup [.u 0, .f], by kernel_rfl, rfl, rfl, rfl⟩
    ·
     refine sri [] 5 7 [True, True, True, True, True] ⟨trivial, trivial, trivial, trivial, trivial, trivial⟩ ?_
     refine sen ?_
     refine an ?_
     refine rg [] 1 ⟨[(27, .f), (3, .u 0), (1, .u (ix st h)), (0, .p 1)], [(0, .cells (bx W xs ys f0 f1 f2 t0 t1 t2 sz lm ts ph scn fl os brk st b0 b1 lg lf pd wt dn k h i j v t f m 5 0 false false) 65), (1, .cells [.p 0] 63)], 2⟩ [] trivial ?_
     refine cf ?_
     refine xw_skip ?_
     exact ⟨.tup [], by kernel_rfl, _, ⟨xs, ys, f1, st, b0, b1, pd, 5, 0, false, false, (by first | rfl | exact jf_rd | exact jf_wr | exact jf_al | omega | assumption), rfl, rfl⟩, rfl, le_cutm ⟨by kernel_rfl, by kernel_rfl, trivial⟩⟩
 ·
  refine sreg hmix [([(0, .cells (bx W xs ys f0 f1 f2 t0 t1 t2 sz lm ts ph scn fl os brk st b0 b1 lg lf pd wt dn k h i j v t f m 0 0 false false) 65), (1, .cells [.p 0] 63)], 2), ([(0, .cells (bx W xs ys f0 f1 f2 t0 t1 t2 sz lm ts ph scn fl os brk st b0 b1 lg lf pd wt dn k h i j v t f m 5 0 false false) 65), (1, .cells [.p 0] 63)], 2)] [6] [(2, [1]), (3, [1, 2]), (4, [1, 2, 3]), (5, [1, 2, 3, 4]), (6, [0, 1, 2, 3, 4, 5]), (7, [0, 1, 2, 3, 4, 5, 6]), (8, [0, 1, 2, 3, 4, 5, 6, 7]), (9, [0, 1, 2, 3, 4, 5, 6, 7]), (10, [0, 1, 2, 3, 4, 5, 6, 7, 8]), (11, [0, 1, 2, 3, 4, 5, 6, 7, 8, 9, 10])] (by kernel_rfl) (by kernel_rfl) (by kernel_rfl) (by kernel_rfl) (by kernel_rfl) ?_
  refine sri [] 6 0 [True, True, True, True, True, True] ⟨trivial, trivial, trivial, trivial, trivial, trivial, trivial⟩ ?_
  refine scallw (f := 39) (args := [.p 0, .i h]) (d := (some 12)) (sv := .tup [.u 0, .f]) 0 (m := [(0, .cells (bx W xs ys f0 f1 f2 t0 t1 t2 sz lm ts ph scn fl os brk st b0 b1 lg lf pd wt dn k h i j v t f m 0 0 false false) 65), (1, .cells [.p 0] 63)]) (n := 2) (m' := [(0, .cells (bx W xs ys f0 f1 f2 t0 t1 t2 sz lm ts ph scn fl os brk st b0 b1 lg lf pd wt dn k h i j v t f m 5 0 false false) 65), (1, .cells [.p 0] 63)]) (n' := 2) (by kernel_rfl) (by kernel_rfl) (by kernel_rfl) (by kernel_rfl) (xcall_of TT_ok Try.func39 rfl (by decide) (Nat.le_of_ble_eq_true (by kernel_rfl)) ?_) ?_
  ·
   refine rgi [] 2 [5, 4, 0, 1] [0, 1] [] trivial ?_
   refine xw_seq ?_
   refine reg ?_
   refine rki [] 6 0 [14, 13, 5, 4, 0] [0, 1] [True, True] ⟨trivial, trivial, trivial⟩ ?_
   refine pc (sget_1 st h (by omega) ‹_› ‹_› ‹_›) ?_
   refine rk [] 5 7 ⟨[(7, .i 5), (6, .u 0), (5, .f), (4, .u 0), (0, .p 0)], [(0, .cells (bx W xs ys f0 f1 f2 t0 t1 t2 sz lm ts ph scn fl os brk st b0 b1 lg lf pd wt dn k h i j v t f m 0 0 false false) 65), (1, .cells [.p 0] 63)], 2⟩ [] trivial ?_
   refine en ?_
   refine an ?_
   refine xw_seq ?_
   refine reg ?_
   refine rki [] 3 0 [20, 19, 18, 5, 4] [0, 1] [] trivial ?_
   refine callx (f := 23) (args := [.p 0, .i 5]) (d := (some 21)) (by kernel_rfl) (xcall_of TT_ok Try.func23 rfl (by decide) (Nat.le_of_ble_eq_true (by kernel_rfl)) ?_)
   refine rgi [] 1 [4, 0, 1] [0, 1] [] trivial ?_
   refine rgi [] 6 [4, 1] [0, 1] [True, True] ⟨trivial, trivial, trivial⟩ ?_
   refine rg [(1, .f)] 3 ⟨[(4, .f)], [(0, .cells (bx W xs ys f0 f1 f2 t0 t1 t2 sz lm ts ph scn fl os brk st b0 b1 lg lf pd wt dn k h i j v t f m 5 0 false false) 65), (1, .cells [.p 0] 63)], 2⟩ [(5 == 0) = false] ⟨beq_eq_false_iff_ne.2 (by omega), trivial⟩ ?_
   refine xw_ret ?_
   refine ⟨.f, by kernel_rfl, ?_⟩
   refine rki [] 2 4 [5, 4] [0, 1] [] trivial ?_
   refine en ?_
   refine an ?_
   refine xw_ret ?_
   exact ⟨.tup [.u 0, .f], by kernel_rfl, rfl, rfl, rfl⟩
  ·
   refine sri [] 5 7 [True, True, True, True, True] ⟨trivial, trivial, trivial, trivial, trivial, trivial⟩ ?_
   refine sen ?_
   refine an ?_
   refine xw_seq ?_
   refine rgi [] 2 [16, 1, 0] [0, 1] [] trivial ?_
   refine ct ?_
   refine xw_ret ?_
   refine an_ret ?_
   exact ⟨.tup [], by kernel_rfl, _, ⟨xs, ys, f1, st, b0, b1, pd, 5, 0, false, false, (by first | rfl | exact jf_rd | exact jf_wr | exact jf_al | omega | assumption), rfl, rfl⟩, rfl, le_cutm ⟨by kernel_rfl, by kernel_rfl, trivial⟩⟩

theorem wpush (W : Int) (xs ys : List Int) (f0 f1 f2 t0 t1 t2 sz lm : Int) (ts : List Th) (ph scn fl : Int) (os : List Int) (brk : Int) (st : List Int) (b0 b1 : Int) (lg : List Ent) (lf : List OpV) (pd : List Ent) (wt : Bool) (dn : List AnsV) (k h i j v t f m : Int) (hp0 : 16 ≤ W ∧ W ≤ 4096) (hp1 : (xs.length : Int) = W) (hp2 : (ys.length : Int) = W) (hp3 : U64s xs) (hp4 : U64s ys) (hp5 : 0 ≤ f0 ∧ f0 ≤ 1) (hp6 : 0 ≤ f1 ∧ f1 ≤ f2) (hp7 : f2 = W) (hp8 : 0 ≤ sz ∧ sz ≤ 4096) (hp9 : U64s st) (hp10 : (st.length : Int) * 8 ≤ 140737488355000) (hp11 : (b0 = 0 ∧ b1 = 0) ∨ (0 ≤ b0 ∧ b0 ≤ b1 ∧ b1 ≤ f1)) (hp12 : Ents pd) (hp13 : (pd.length : Int) = 0) (hp14 : k = 9) (hp15 : -9223372036854775808 ≤ h ∧ h ≤ 9223372036854775807) : MCall Try.prog 42 [.p 1] [(0, .cells (bx W xs ys f0 f1 f2 t0 t1 t2 sz lm ts ph scn fl os brk st b0 b1 lg lf pd wt dn k h i j v t f m 0 0 false false) 65), (1, .cells [.p 0] 63)] 2 2 (fun zx zm => (∃ X1 : List Int, ∃ Y1 : List Int, ∃ F1 : Int, ∃ st1 : List Int, ∃ p1 : Int, ∃ q1 : Int, ∃ pd1 : List Ent, ∃ e1 : Int, ∃ v1 : Int, ∃ yes1 : Bool, ∃ wt1 : Bool, (JF k ph h i W f1 f2 xs ys st X1 Y1 F1 st1 p1 q1 pd1 e1 v1 wt1) ∧ zx = .tup [] ∧ zm = [(0, .cells (bx W X1 Y1 f0 F1 f2 t0 t1 t2 sz lm ts ph scn fl os brk st1 p1 q1 lg lf pd1 wt dn k h i j v t f m e1 v1 yes1 wt1) 65), (1, .cells [.p 0] 63)])) := by
 refine mcall_of (by kernel_rfl) (by kernel_rfl) (xcall_of TT_ok Try.func42 rfl (by decide) (Nat.le_of_ble_eq_true (by kernel_rfl)) ?_)
 have h0 : 0 ≤ (ix st h) ∧ (ix st h) ≤ 18446744073709551615 := U64s.ix ‹_› _
 refine xw_seq ?_
 by_cases h1 : 0 ≤ h ∧ h < ((st).length : Int)
 ·
  refine sreg hmix [([(0, .cells (bx W xs ys f0 f1 f2 t0 t1 t2 sz lm ts ph scn fl os brk st b0 b1 lg lf pd wt dn k h i j v t f m 0 0 false false) 65), (1, .cells [.p 0] 63)], 2), ([(0, .cells (bx W xs ys f0 f1 f2 t0 t1 t2 sz lm ts ph scn fl os brk st b0 b1 lg lf pd wt dn k h i j v t f m 0 0 false false) 65), (1, .cells [.p 0] 63)], 2)] [6] [(2, [1]), (3, [1, 2]), (4, [1, 2, 3]), (5, [1, 2, 3, 4]), (6, [0, 1, 2, 3, 4, 5]), (7, [0, 1, 2, 3, 4, 5, 6]), (8, [0, 1, 2, 3, 4, 5, 6, 7]), (9, [0, 1, 2, 3, 4, 5, 6, 7]), (10, [0, 1, 2, 3, 4, 5, 6, 7, 8]), (11, [0, 1, 2, 3, 4, 5, 6, 7, 8, 9, 10])] (by kernel_rfl) (by kernel_rfl) (by kernel_rfl) (by kernel_rfl) (by kernel_rfl) ?_
  refine sri [] 6 0 [True, True, True, True, True, True] ⟨trivial, trivial, trivial, trivial, trivial, trivial, trivial⟩ ?_
  refine scallw (f := 39) (args := [.p 0, .i h]) (d := (some 10)) (sv := .tup [.u (ix st h), .t]) 0 (m := [(0, .cells (bx W xs ys f0 f1 f2 t0 t1 t2 sz lm ts ph scn fl os brk st b0 b1 lg lf pd wt dn k h i j v t f m 0 0 false false) 65), (1, .cells [.p 0] 63)]) (n := 2) (m' := [(0, .cells (bx W xs ys f0 f1 f2 t0 t1 t2 sz lm ts ph scn fl os brk st b0 b1 lg lf pd wt dn k h i j v t f m 0 0 false false) 65), (1, .cells [.p 0] 63)]) (n' := 2) (by kernel_rfl) (by kernel_rfl) (by kernel_rfl) (by kernel_rfl) (xcall_of TT_ok Try.func39 rfl (by decide) (Nat.le_of_ble_eq_true (by kernel_rfl)) ?_) ?_
  ·
   refine rgi [] 2 [5, 4, 0, 1] [0, 1] [] trivial ?_
   refine xw_seq ?_
   refine reg ?_
   refine rki [] 6 0 [14, 13, 5, 4, 0] [0, 1] [True, True] ⟨trivial, trivial, trivial⟩ ?_
   refine pc (sget_2 st h (by omega) ‹_› ‹_› ‹_›) ?_
   refine rk [] 5 7 ⟨[(7, .i 0), (6, .u (ix st h)), (5, .f), (4, .u 0), (0, .p 0)], [(0, .cells (bx W xs ys f0 f1 f2 t0 t1 t2 sz lm ts ph scn fl os brk st b0 b1 lg lf pd wt dn k h i j v t f m 0 0 false false) 65), (1, .cells [.p 0] 63)], 2⟩ [] trivial ?_
   refine en ?_
   refine an ?_
   refine xw_seq ?_
   refine reg ?_
   refine rki [] 3 0 [20, 19, 18, 5, 4] [0, 1] [] trivial ?_
   refine callx (f := 23) (args := [.p 0, .i 0]) (d := (some 21)) (by kernel_rfl) (xcall_of TT_ok Try.func23 rfl (by decide) (Nat.le_of_ble_eq_true (by kernel_rfl)) ?_)
   refine rgi [] 1 [4, 0, 1] [0, 1] [] trivial ?_
   refine rgi [] 6 [4, 1] [0, 1] [True, True] ⟨trivial, trivial, trivial⟩ ?_
   refine rg [(1, .t)] 3 ⟨[(4, .t)], [(0, .cells (bx W xs ys f0 f1 f2 t0 t1 t2 sz lm ts ph scn fl os brk st b0 b1 lg lf pd wt dn k h i j v t f m 0 0 false false) 65), (1, .cells [.p 0] 63)], 2⟩ [(0 == 0) = true] ⟨beq_iff_eq.2 (by omega), trivial⟩ ?_
   refine xw_ret ?_
   refine ⟨.t, by kernel_rfl, ?_⟩
   refine rki [] 2 4 [5, 4] [0, 1] [] trivial ?_
   refine en ?_
   refine an ?_
   refine xw_ret ?_
   exact ⟨.tup [.u (ix st h), .t], by kernel_rfl, rfl, rfl, rfl⟩
  ·
   refine sri [] 5 7 [True, True, True, True, True] ⟨trivial, trivial, trivial, trivial, trivial, trivial⟩ ?_
   refine sen ?_
   refine an ?_
   refine rgi [] 1 [13, 1, 0] [0, 1] [] trivial ?_
   refine ct ?_
   refine reg ?_
   refine rk [] 2 0 ⟨[(15, .u (ix st h)), (14, .p 0)], [(0, .cells (bx W xs ys f0 f1 f2 t0 t1 t2 sz lm ts ph scn fl os brk st b0 b1 lg lf pd wt dn k h i j v t f m 0 0 false false) 65), (1, .cells [.p 0] 63)], 2⟩ [True] ⟨trivial, trivial⟩ ?_
   refine mcall2 (d := (some 16)) [0] (wpushh W xs ys f0 f1 f2 t0 t1 t2 sz lm ts ph scn fl os brk st b0 b1 lg lf pd wt dn k h i j v t f m (ix st h) ‹_› (by omega) ‹_›) ⟨by kernel_rfl, trivial⟩ ?_ ?_
   · rintro _ _ (⟨_, _, _, _, _, rfl, rfl⟩) <;> kernel_rfl
   ·
    rintro _ _ (⟨st1, e1, h4, h5, h6, rfl, rfl⟩)
    refine mst ⟨[(16, .tup []), (15, .u (ix st h)), (14, .p 0)], [(0, .cells (bx W xs ys f0 f1 f2 t0 t1 t2 sz lm ts ph scn fl os brk st1 b0 b1 lg lf pd wt dn k h i j v t f m e1 0 false false) 65), (1, .cells [.p 0] 63)], 2⟩ ?_
    refine en ?_
    exact ⟨.tup [], by kernel_rfl, _, ⟨xs, ys, f1, st1, b0, b1, pd, e1, 0, false, false, (by first | rfl | exact jf_rd | exact jf_wr | exact jf_al | omega | assumption), rfl, rfl⟩, rfl, le_cutm ⟨by kernel_rfl, by kernel_rfl, trivial⟩⟩
 ·
  refine sreg hmix [([(0, .cells (bx W xs ys f0 f1 f2 t0 t1 t2 sz lm ts ph scn fl os brk st b0 b1 lg lf pd wt dn k h i j v t f m 0 0 false false) 65), (1, .cells [.p 0] 63)], 2), ([(0, .cells (bx W xs ys f0 f1 f2 t0 t1 t2 sz lm ts ph scn fl os brk st b0 b1 lg lf pd wt dn k h i j v t f m 5 0 false false) 65), (1, .cells [.p 0] 63)], 2)] [6] [(2, [1]), (3, [1, 2]), (4, [1, 2, 3]), (5, [1, 2, 3, 4]), (6, [0, 1, 2, 3, 4, 5]), (7, [0, 1, 2, 3, 4, 5, 6]), (8, [0, 1, 2, 3, 4, 5, 6, 7]), (9, [0, 1, 2, 3, 4, 5, 6, 7]), (10, [0, 1, 2, 3, 4, 5, 6, 7, 8]), (11, [0, 1, 2, 3, 4, 5, 6, 7, 8, 9, 10])] (by kernel_rfl) (by kernel_rfl) (by kernel_rfl) (by kernel_rfl) (by kernel_rfl) ?_
  refine sri [] 6 0 [True, True, True, True, True, True] ⟨trivial, trivial, trivial, trivial, trivial, trivial, trivial⟩ ?_
  refine scallw (f := 39) (args := [.p 0, .i h]) (d := (some 10)) (sv := .tup [.u 0, .f]) 0 (m := [(0, .cells (bx W xs ys f0 f1 f2 t0 t1 t2 sz lm ts ph scn fl os brk st b0 b1 lg lf pd wt dn k h i j v t f m 0 0 false false) 65), (1, .cells [.p 0] 63)]) (n := 2) (m' := [(0, .cells (bx W xs ys f0 f1 f2 t0 t1 t2 sz lm ts ph scn fl os brk st b0 b1 lg lf pd wt dn k h i j v t f m 5 0 false false) 65), (1, .cells [.p 0] 63)]) (n' := 2) (by kernel_rfl) (by kernel_rfl) (by kernel_rfl) (by kernel_rfl) (xcall_of TT_ok Try.func39 rfl (by decide) (Nat.le_of_ble_eq_true (by kernel_rfl)) ?_) ?_
  ·
   refine rgi [] 2 [5, 4, 0, 1] [0, 1] [] trivial ?_
   refine xw_seq ?_
   refine reg ?_
   refine rki [] 6 0 [14, 13, 5, 4, 0] [0, 1] [True, True] ⟨trivial, trivial, trivial⟩ ?_
   refine pc (sget_1 st h (by omega) ‹_› ‹_› ‹_›) ?_
   refine rk [] 5 7 ⟨[(7, .i 5), (6, .u 0), (5, .f), (4, .u 0), (0, .p 0)], [(0, .cells (bx W xs ys f0 f1 f2 t0 t1 t2 sz lm ts ph scn fl os brk st b0 b1 lg lf pd wt dn k h i j v t f m 0 0 false false) 65), (1, .cells [.p 0] 63)], 2⟩ [] trivial ?_
   refine en ?_
   refine an ?_
   refine xw_seq ?_
   refine reg ?_
   refine rki [] 3 0 [20, 19, 18, 5, 4] [0, 1] [] trivial ?_
   refine callx (f := 23) (args := [.p 0, .i 5]) (d := (some 21)) (by kernel_rfl) (xcall_of TT_ok Try.func23 rfl (by decide) (Nat.le_of_ble_eq_true (by kernel_rfl)) ?_)
   refine rgi [] 1 [4, 0, 1] [0, 1] [] trivial ?_
   refine rgi [] 6 [4, 1] [0, 1] [True, True] ⟨trivial, trivial, trivial⟩ ?_
   refine rg [(1, .f)] 3 ⟨[(4, .f)], [(0, .cells (bx W xs ys f0 f1 f2 t0 t1 t2 sz lm ts ph scn fl os brk st b0 b1 lg lf pd wt dn k h i j v t f m 5 0 false false) 65), (1, .cells [.p 0] 63)], 2⟩ [(5 == 0) = false] ⟨beq_eq_false_iff_ne.2 (by omega), trivial⟩ ?_
   refine xw_ret ?_
   refine ⟨.f, by kernel_rfl, ?_⟩
   refine rki [] 2 4 [5, 4] [0, 1] [] trivial ?_
   refine en ?_
   refine an ?_
   refine xw_ret ?_
   exact ⟨.tup [.u 0, .f], by kernel_rfl, rfl, rfl, rfl⟩
  ·
   refine sri [] 5 7 [True, True, True, True, True] ⟨trivial, trivial, trivial, trivial, trivial, trivial⟩ ?_
   refine sen ?_
   refine an ?_
   refine rgi [] 1 [13, 1, 0] [0, 1] [] trivial ?_
   refine cf ?_
   refine xw_skip ?_
   exact ⟨.tup [], by kernel_rfl, _, ⟨xs, ys, f1, st, b0, b1, pd, 5, 0, false, false, (by first | rfl | exact jf_rd | exact jf_wr | exact jf_al | omega | assumption), rfl, rfl⟩, rfl, le_cutm ⟨by kernel_rfl, by kernel_rfl, trivial⟩⟩

theorem wpop (W : Int) (xs ys : List Int) (f0 f1 f2 t0 t1 t2 sz lm : Int) (ts : List Th) (ph scn fl : Int) (os : List Int) (brk : Int) (st : List Int) (b0 b1 : Int) (lg : List Ent) (lf : List OpV) (pd : List Ent) (wt : Bool) (dn : List AnsV) (k h i j v t f m : Int) (hp0 : 16 ≤ W ∧ W ≤ 4096) (hp1 : (xs.length : Int) = W) (hp2 : (ys.length : Int) = W) (hp3 : U64s xs) (hp4 : U64s ys) (hp5 : 0 ≤ f0 ∧ f0 ≤ 1) (hp6 : 0 ≤ f1 ∧ f1 ≤ f2) (hp7 : f2 = W) (hp8 : 0 ≤ sz ∧ sz ≤ 4096) (hp9 : U64s st) (hp10 : (st.length : Int) * 8 ≤ 140737488355000) (hp11 : (b0 = 0 ∧ b1 = 0) ∨ (0 ≤ b0 ∧ b0 ≤ b1 ∧ b1 ≤ f1)) (hp12 : Ents pd) (hp13 : (pd.length : Int) = 0) (hp14 : k = 10) : MCall Try.prog 43 [.p 1] [(0, .cells (bx W xs ys f0 f1 f2 t0 t1 t2 sz lm ts ph scn fl os brk st b0 b1 lg lf pd wt dn k h i j v t f m 0 0 false false) 65), (1, .cells [.p 0] 63)] 2 2 (fun zx zm => (∃ X1 : List Int, ∃ Y1 : List Int, ∃ F1 : Int, ∃ st1 : List Int, ∃ p1 : Int, ∃ q1 : Int, ∃ pd1 : List Ent, ∃ e1 : Int, ∃ v1 : Int, ∃ yes1 : Bool, ∃ wt1 : Bool, (JF k ph h i W f1 f2 xs ys st X1 Y1 F1 st1 p1 q1 pd1 e1 v1 wt1) ∧ zx = .tup [] ∧ zm = [(0, .cells (bx W X1 Y1 f0 F1 f2 t0 t1 t2 sz lm ts ph scn fl os brk st1 p1 q1 lg lf pd1 wt dn k h i j v t f m e1 v1 yes1 wt1) 65), (1, .cells [.p 0] 63)])) := by
 refine mcall_of (by kernel_rfl) (by kernel_rfl) (xcall_of TT_ok Try.func43 rfl (by decide) (Nat.le_of_ble_eq_true (by kernel_rfl)) ?_)
 refine xw_seq ?_
 refine reg ?_
 refine rki [] 5 0 [8, 0] [0, 1] [True, True, True] ⟨trivial, trivial, trivial, trivial⟩ ?_
 by_cases h0 : (st.length : Int) = 0
 ·
  refine pc (spop_1 st (by omega) ‹_› ‹_›) ?_
  refine rki [] 5 6 [2, 1, 0] [0, 1] [] trivial ?_
  refine en ?_
  refine an ?_
  refine xw_seq ?_
  refine reg ?_
  refine rki [] 2 0 [13, 12, 1, 0] [0, 1] [True] ⟨trivial, trivial⟩ ?_
  refine callx (f := 23) (args := [.p 0, .i 9]) (d := (some 14)) (by kernel_rfl) (xcall_of TT_ok Try.func23 rfl (by decide) (Nat.le_of_ble_eq_true (by kernel_rfl)) ?_)
  refine rg [] 1 ⟨[(4, .f), (0, .p 0), (1, .i 9)], [(0, .cells (bx W xs ys f0 f1 f2 t0 t1 t2 sz lm ts ph scn fl os brk st b0 b1 lg lf pd wt dn k h i j v t f m 0 0 false false) 65), (1, .cells [.p 0] 63)], 2⟩ [] trivial ?_
  refine rgi [] 6 [4, 1] [0, 1] [True, True] ⟨trivial, trivial, trivial⟩ ?_
  refine rgi [(1, .f)] 3 [4] [0, 1] [(9 == 0) = false] ⟨beq_eq_false_iff_ne.2 (by omega), trivial⟩ ?_
  refine xw_ret ?_
  refine ⟨.f, by kernel_rfl, ?_⟩
  refine en ?_
  refine an ?_
  refine re [] 6 ⟨[], [(0, .cells (bx W xs ys f0 f1 f2 t0 t1 t2 sz lm ts ph scn fl os brk st b0 b1 lg lf pd wt dn k h i j v t f m 9 0 false false) 65), (1, .cells [.p 0] 63)], 2⟩ [True, True, True] ⟨trivial, trivial, trivial, trivial⟩ ?_
  exact ⟨.tup [], by kernel_rfl, _, ⟨xs, ys, f1, st, b0, b1, pd, 9, 0, false, false, (by first | rfl | exact jf_rd | exact jf_wr | exact jf_al | omega | assumption), rfl, rfl⟩, rfl, le_cutm ⟨by kernel_rfl, by kernel_rfl, trivial⟩⟩
 ·
  refine pc (spop_2 st (by omega) ‹_› (by omega)) ?_
  refine rki [] 5 6 [2, 1, 0] [0, 1] [] trivial ?_
  refine en ?_
  refine an ?_
  refine xw_seq ?_
  refine reg ?_
  refine rki [] 2 0 [13, 12, 1, 0] [0, 1] [True] ⟨trivial, trivial⟩ ?_
  refine callx (f := 23) (args := [.p 0, .i 0]) (d := (some 14)) (by kernel_rfl) (xcall_of TT_ok Try.func23 rfl (by decide) (Nat.le_of_ble_eq_true (by kernel_rfl)) ?_)
  refine rg [] 1 ⟨[(4, .f), (0, .p 0), (1, .i 0)], [(0, .cells (bx W xs ys f0 f1 f2 t0 t1 t2 sz lm ts ph scn fl os brk st b0 b1 lg lf pd wt dn k h i j v t f m 0 0 false false) 65), (1, .cells [.p 0] 63)], 2⟩ [] trivial ?_
  refine rgi [] 6 [4, 1] [0, 1] [True, True] ⟨trivial, trivial, trivial⟩ ?_
  refine rgi [(1, .t)] 3 [4] [0, 1] [(0 == 0) = true] ⟨beq_iff_eq.2 (by omega), trivial⟩ ?_
  refine xw_ret ?_
  refine ⟨.t, by kernel_rfl, ?_⟩
  refine en ?_
  refine an ?_
  refine re [] 6 ⟨[], [(0, .cells (bx W xs ys f0 f1 f2 t0 t1 t2 sz lm ts ph scn fl os brk (st.take (Int.toNat ((st.length : Int) - 1))) b0 b1 lg lf pd wt dn k h i j v t f m 0 0 false false) 65), (1, .cells [.p 0] 63)], 2⟩ [True, True, True] ⟨trivial, trivial, trivial, trivial⟩ ?_
  exact ⟨.tup [], by kernel_rfl, _, ⟨xs, ys, f1, (st.take (Int.toNat ((st.length : Int) - 1))), b0, b1, pd, 0, 0, false, false, (by first | rfl | exact jf_rd | exact jf_wr | exact jf_al | omega | assumption), rfl, rfl⟩, rfl, le_cutm ⟨by kernel_rfl, by kernel_rfl, trivial⟩⟩

theorem wcollect (W : Int) (xs ys : List Int) (f0 f1 f2 t0 t1 t2 sz lm : Int) (ts : List Th) (ph scn fl : Int) (os : List Int) (brk : Int) (st : List Int) (b0 b1 : Int) (lg : List Ent) (lf : List OpV) (pd : List Ent) (wt : Bool) (dn : List AnsV) (k h i j v t f m : Int) (hp0 : 16 ≤ W ∧ W ≤ 4096) (hp1 : (xs.length : Int) = W) (hp2 : (ys.length : Int) = W) (hp3 : U64s xs) (hp4 : U64s ys) (hp5 : 0 ≤ f0 ∧ f0 ≤ 1) (hp6 : 0 ≤ f1 ∧ f1 ≤ f2) (hp7 : f2 = W) (hp8 : 0 ≤ sz ∧ sz ≤ 4096) (hp9 : U64s st) (hp10 : (st.length : Int) * 8 ≤ 140737488355000) (hp11 : (b0 = 0 ∧ b1 = 0) ∨ (0 ≤ b0 ∧ b0 ≤ b1 ∧ b1 ≤ f1)) (hp12 : Ents pd) (hp13 : (pd.length : Int) = 0) (hp14 : k = 11) : MCall Try.prog 45 [.p 1] [(0, .cells (bx W xs ys f0 f1 f2 t0 t1 t2 sz lm ts ph scn fl os brk st b0 b1 lg lf pd wt dn k h i j v t f m 0 0 false false) 65), (1, .cells [.p 0] 63)] 2 2 (fun zx zm => (∃ X1 : List Int, ∃ Y1 : List Int, ∃ F1 : Int, ∃ st1 : List Int, ∃ p1 : Int, ∃ q1 : Int, ∃ pd1 : List Ent, ∃ e1 : Int, ∃ v1 : Int, ∃ yes1 : Bool, ∃ wt1 : Bool, (JF k ph h i W f1 f2 xs ys st X1 Y1 F1 st1 p1 q1 pd1 e1 v1 wt1) ∧ zx = .tup [] ∧ zm = [(0, .cells (bx W X1 Y1 f0 F1 f2 t0 t1 t2 sz lm ts ph scn fl os brk st1 p1 q1 lg lf pd1 wt dn k h i j v t f m e1 v1 yes1 wt1) 65), (1, .cells [.p 0] 63)])) := by
 refine mcall_of (by kernel_rfl) (by kernel_rfl) (xcall_of TT_ok Try.func45 rfl (by decide) (Nat.le_of_ble_eq_true (by kernel_rfl)) ?_)
 refine rei [] 4 [] [0, 1] [True, True, True] ⟨trivial, trivial, trivial, trivial⟩ ?_
 exact ⟨.tup [], by kernel_rfl, _, ⟨xs, ys, f1, st, b0, b1, pd, 0, 0, false, true, (by first | rfl | exact jf_rd | exact jf_wr | exact jf_al | omega | assumption), rfl, rfl⟩, rfl, le_cutm ⟨by kernel_rfl, by kernel_rfl, trivial⟩⟩

end Go.Proofs.Ytjchmajamlehmaa.X
