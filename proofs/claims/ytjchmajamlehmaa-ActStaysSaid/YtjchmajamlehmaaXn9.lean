/- Contracts of Go functions: what each returns, for every input that its premises name; no memory of the caller is touched. Printed by a program. -/
import Derived.Test.YtjchmajamlehmaaXe1
import Derived.Test.YtjchmajamlehmaaXn8
import Derived.Test.YtjchmajamlehmaaXu8
import Derived.Test.YtjchmajamlehmaaXr1
import Derived.Test.YtjchmajamlehmaaXq2
namespace Go.Proofs.Ytjchmajamlehmaa.X
open Go Go.RowKit
set_option linter.unusedVariables false      -- a premise may serve only to tell which way is taken
set_option linter.unusedSimpArgs false
set_option maxHeartbeats 8000000 in
theorem wfield (W : Int) (xs ys : List Int) (f0 f1 f2 t0 t1 t2 sz lm : Int) (ts : List Th) (ph scn fl : Int) (os : List Int) (brk : Int) (st : List Int) (b0 b1 : Int) (lg : List Ent) (lf : List OpV) (pd : List Ent) (wt : Bool) (dn : List AnsV) (k h i j v t f m : Int) (pt : Bool) (hp0 : 16 ≤ W ∧ W ≤ 4096) (hp1 : (xs.length : Int) = W) (hp2 : (ys.length : Int) = W) (hp3 : U64s xs) (hp4 : U64s ys) (hp5 : U64s st) (hp6 : (st.length : Int) * 8 ≤ 140737488355000) (hp7 : -9223372036854775808 ≤ h ∧ h ≤ 9223372036854775807) (hp8 : -9223372036854775808 ≤ i ∧ i ≤ 9223372036854775807) : MCall Try.prog 34 [.p 0, .bool pt] [(0, .cells (bx W xs ys f0 f1 f2 t0 t1 t2 sz lm ts ph scn fl os brk st b0 b1 lg lf pd wt dn k h i j v t f m 0 0 false false) 65)] 1 1 (fun zx zm => (∃ e1 : Int, (1 ≤ e1 ∧ e1 ≤ 100) ∧ zx = .tup [.u 0, .u 0, .f] ∧ zm = [(0, .cells (bx W xs ys f0 f1 f2 t0 t1 t2 sz lm ts ph scn fl os brk st b0 b1 lg lf pd wt dn k h i j v t f m e1 0 false false) 65)]) ∨ (∃ v1 : Int, (0 ≤ h ∧ h < (st.length : Int)) ∧ (0 ≤ v1 ∧ v1 ≤ 18446744073709551615) ∧ zx = .tup [.u (ix st h), .u v1, .t] ∧ zm = [(0, .cells (bx W xs ys f0 f1 f2 t0 t1 t2 sz lm ts ph scn fl os brk st b0 b1 lg lf pd wt dn k h i j v t f m 0 0 false false) 65)])) := by
 refine mcall_of (by kernel_rfl) (by kernel_rfl) (xcall_of TT_ok Try.func34 rfl (by decide) (Nat.le_of_ble_eq_true (by kernel_rfl)) ?_)
 have h0 : 0 ≤ (ix st h) ∧ (ix st h) ≤ 18446744073709551615 := U64s.ix ‹_› _
 refine rgi [] 3 [6, 5, 4, 0, 1] [0] [] trivial ?_
 refine xw_scope_u 0 1 rfl ?_
 refine xw_seq ?_
 refine dregk hmix (by kernel_rfl) ?_
 refine qri [] 10 0 [True, True, True, True] ⟨trivial, trivial, trivial, trivial, trivial⟩ ?_
 by_cases h1 : ¬ (0 ≤ h ∧ h < (st.length : Int))
 ·
  refine qc (sreal_1 st h (by omega) ‹_› ‹_› ‹_›) ?_
  refine qri [] 5 11 [] trivial ?_
  refine qen ?_
  refine an ?_
  refine rg [] 1 ⟨[(8, .i 5), (7, .u 0), (6, .f), (5, .u 0), (4, .u 0), (0, .p 0), (1, .bool pt)], [(0, .cells (bx W xs ys f0 f1 f2 t0 t1 t2 sz lm ts ph scn fl os brk st b0 b1 lg lf pd wt dn k h i j v t f m 0 0 false false) 65)], 1⟩ [] trivial ?_
  refine rgi [] 1 [8, 7, 6, 5, 4, 0, 1] [0] [] trivial ?_
  refine rgi [] 1 [11, 8, 7, 6, 5, 4, 0, 1] [1, 0] [] trivial ?_
  refine xw_seq ?_
  refine rgi [(1, .t)] 2 [27, 11, 8, 7, 6, 5, 4, 0, 1] [1, 0] [(5 != 0) = true] ⟨bne_iff_ne.2 (by omega), trivial⟩ ?_
  refine ct ?_
  refine xw_goto ?_
  refine an_goto ?_
  refine juu ?_
  refine uj_step ?_
  refine xw_seq ?_
  refine xw_skip ?_
  refine an ?_
  refine xw_seq ?_
  refine reg ?_
  refine rk [] 2 0 ⟨[(69, .i 5), (68, .p 0), (8, .i 5), (6, .f), (5, .u 0), (4, .u 0), (0, .p 0)], [(0, .cells (bx W xs ys f0 f1 f2 t0 t1 t2 sz lm ts ph scn fl os brk st b0 b1 lg lf pd wt dn k h i j v t f m 0 0 false false) 65)], 2⟩ [] trivial ?_
  refine callx (f := 23) (args := [.p 0, .i 5]) (d := (some 70)) (by kernel_rfl) (xcall_of TT_ok Try.func23 rfl (by decide) (Nat.le_of_ble_eq_true (by kernel_rfl)) ?_)
  refine rgi [] 1 [4, 0, 1] [0] [] trivial ?_
  refine rgi [] 6 [4, 1] [0] [True, True] ⟨trivial, trivial, trivial⟩ ?_
  refine rgi [(1, .f)] 3 [4] [0] [(5 == 0) = false] ⟨beq_eq_false_iff_ne.2 (by omega), trivial⟩ ?_
  refine xw_ret ?_
  refine ⟨.f, by kernel_rfl, ?_⟩
  show XOi _ _ _ _ _ _ _ ⟨[(70, .f), (69, .i 5), (68, .p 0), (8, .i 5), (6, .f), (5, .u 0), (4, .u 0), (0, .p 0)], [(0, .cells (bx W xs ys f0 f1 f2 t0 t1 t2 sz lm ts ph scn fl os brk st b0 b1 lg lf pd wt dn k h i j v t f m 5 0 false false) 65)], 2⟩
  refine rki [] 3 3 [6, 5, 4, 8, 0] [0] [] trivial ?_
  refine en ?_
  refine an ?_
  refine xw_ret ?_
  refine juu_ret ?_
  exact ⟨.tup [.u 0, .u 0, .f], by kernel_rfl, _, .inl <| ⟨5, (by omega), rfl, rfl⟩, rfl, le_cutm ⟨by kernel_rfl, trivial⟩⟩
 ·
  by_cases h2 : (ix st h) = 0
  ·
   refine qc (sreal_2 st h (by omega) ‹_› ‹_› (by omega) ‹_›) ?_
   refine qri [] 5 11 [] trivial ?_
   refine qen ?_
   refine an ?_
   refine rg [] 1 ⟨[(8, .i 6), (7, .u 0), (6, .f), (5, .u 0), (4, .u 0), (0, .p 0), (1, .bool pt)], [(0, .cells (bx W xs ys f0 f1 f2 t0 t1 t2 sz lm ts ph scn fl os brk st b0 b1 lg lf pd wt dn k h i j v t f m 0 0 false false) 65)], 1⟩ [] trivial ?_
   refine rgi [] 1 [8, 7, 6, 5, 4, 0, 1] [0] [] trivial ?_
   refine rgi [] 1 [11, 8, 7, 6, 5, 4, 0, 1] [1, 0] [] trivial ?_
   refine xw_seq ?_
   refine rgi [(1, .t)] 2 [27, 11, 8, 7, 6, 5, 4, 0, 1] [1, 0] [(6 != 0) = true] ⟨bne_iff_ne.2 (by omega), trivial⟩ ?_
   refine ct ?_
   refine xw_goto ?_
   refine an_goto ?_
   refine juu ?_
   refine uj_step ?_
   refine xw_seq ?_
   refine xw_skip ?_
   refine an ?_
   refine xw_seq ?_
   refine reg ?_
   refine rk [] 2 0 ⟨[(69, .i 6), (68, .p 0), (8, .i 6), (6, .f), (5, .u 0), (4, .u 0), (0, .p 0)], [(0, .cells (bx W xs ys f0 f1 f2 t0 t1 t2 sz lm ts ph scn fl os brk st b0 b1 lg lf pd wt dn k h i j v t f m 0 0 false false) 65)], 2⟩ [] trivial ?_
   refine callx (f := 23) (args := [.p 0, .i 6]) (d := (some 70)) (by kernel_rfl) (xcall_of TT_ok Try.func23 rfl (by decide) (Nat.le_of_ble_eq_true (by kernel_rfl)) ?_)
   refine rgi [] 1 [4, 0, 1] [0] [] trivial ?_
   refine rgi [] 6 [4, 1] [0] [True, True] ⟨trivial, trivial, trivial⟩ ?_
   refine rgi [(1, .f)] 3 [4] [0] [(6 == 0) = false] ⟨beq_eq_false_iff_ne.2 (by omega), trivial⟩ ?_
   refine xw_ret ?_
   refine ⟨.f, by kernel_rfl, ?_⟩
   show XOi _ _ _ _ _ _ _ ⟨[(70, .f), (69, .i 6), (68, .p 0), (8, .i 6), (6, .f), (5, .u 0), (4, .u 0), (0, .p 0)], [(0, .cells (bx W xs ys f0 f1 f2 t0 t1 t2 sz lm ts ph scn fl os brk st b0 b1 lg lf pd wt dn k h i j v t f m 6 0 false false) 65)], 2⟩
   refine rki [] 3 3 [6, 5, 4, 8, 0] [0] [] trivial ?_
   refine en ?_
   refine an ?_
   refine xw_ret ?_
   refine juu_ret ?_
   exact ⟨.tup [.u 0, .u 0, .f], by kernel_rfl, _, .inl <| ⟨6, (by omega), rfl, rfl⟩, rfl, le_cutm ⟨by kernel_rfl, trivial⟩⟩
  ·
   refine qc (sreal_3 st h (by omega) ‹_› ‹_› (by omega) (by omega)) ?_
   refine qri [] 5 11 [] trivial ?_
   refine qen ?_
   refine an ?_
   refine rg [] 1 ⟨[(8, .i 0), (7, .u (ix st h)), (6, .f), (5, .u 0), (4, .u 0), (0, .p 0), (1, .bool pt)], [(0, .cells (bx W xs ys f0 f1 f2 t0 t1 t2 sz lm ts ph scn fl os brk st b0 b1 lg lf pd wt dn k h i j v t f m 0 0 false false) 65)], 1⟩ [] trivial ?_
   refine rgi [] 1 [8, 7, 6, 5, 4, 0, 1] [0] [] trivial ?_
   refine rgi [] 1 [11, 8, 7, 6, 5, 4, 0, 1] [1, 0] [] trivial ?_
   refine xw_seq ?_
   refine rgi [(1, .f)] 2 [27, 11, 8, 7, 6, 5, 4, 0, 1] [1, 0] [(0 != 0) = false] ⟨bne_eq_false_iff_eq.2 (by omega), trivial⟩ ?_
   refine cf ?_
   refine xw_skip ?_
   refine an ?_
   refine xw_seq ?_
   refine reg ?_
   refine rk [] 6 0 ⟨[(34, .u (ix st h)), (33, .agg (mm W xs ys)), (11, .p 1), (8, .i 0), (7, .u (ix st h)), (6, .f), (5, .u 0), (4, .u 0), (0, .p 0), (1, .bool pt)], [(1, .cells [.i 0, .i 0, .u 0] 49), (0, .cells (bx W xs ys f0 f1 f2 t0 t1 t2 sz lm ts ph scn fl os brk st b0 b1 lg lf pd wt dn k h i j v t f m 0 0 false false) 65)], 2⟩ [True, True] ⟨trivial, trivial, trivial⟩ ?_
   by_cases h3 : (oErr W xs ys (ix st h)) = 0
   ·
    refine pc (oat_1 W xs ys (ix st h) ‹_› ‹_› ‹_› ‹_› ‹_› ‹_› ‹_›) ?_
    obtain ⟨h4, h5, h6⟩ := oErr_ok W xs ys (ix st h) ‹_›
    refine rki [] 5 7 [8, 11, 7, 6, 5, 4, 0, 1] [1, 0] [True] ⟨trivial, trivial⟩ ?_
    refine en ?_
    refine an ?_
    refine xw_seq ?_
    refine rgi [(1, .f), (5, .bool ((ldw xs ys (ix st h) / 72057594037927936) == 255))] 7 [44, 8, 7, 6, 5, 4, 0, 1] [0] [(0 != 0) = false, True, sm ((ldw xs ys (ix st h) / 72057594037927936) == 255), True] ⟨bne_eq_false_iff_eq.2 (by omega), trivial, rfl, trivial, trivial⟩ ?_
    refine xw_cond (b := ((ldw xs ys (ix st h) / 72057594037927936) == 255)) (by kernel_rfl) (fun h7 => ?_) (fun h7 => ?_)
    ·
     replace h7 : (ldw xs ys (ix st h) / 72057594037927936) = 255 := eq_of_beq h7
     refine rgi [] 1 [8, 7, 6, 5, 4, 0, 1] [0] [] trivial ?_
     refine xw_goto ?_
     refine an_goto ?_
     refine juu ?_
     refine uj_step ?_
     refine xw_seq ?_
     refine xw_skip ?_
     refine an ?_
     refine xw_seq ?_
     refine reg ?_
     refine rk [] 2 0 ⟨[(69, .i 10), (68, .p 0), (8, .i 10), (6, .f), (5, .u 0), (4, .u 0), (0, .p 0)], [(0, .cells (bx W xs ys f0 f1 f2 t0 t1 t2 sz lm ts ph scn fl os brk st b0 b1 lg lf pd wt dn k h i j v t f m 0 0 false false) 65)], 2⟩ [] trivial ?_
     refine callx (f := 23) (args := [.p 0, .i 10]) (d := (some 70)) (by kernel_rfl) (xcall_of TT_ok Try.func23 rfl (by decide) (Nat.le_of_ble_eq_true (by kernel_rfl)) ?_)
     refine rgi [] 1 [4, 0, 1] [0] [] trivial ?_
     refine rgi [] 6 [4, 1] [0] [True, True] ⟨trivial, trivial, trivial⟩ ?_
     refine rgi [(1, .f)] 3 [4] [0] [(10 == 0) = false] ⟨beq_eq_false_iff_ne.2 (by omega), trivial⟩ ?_
     refine xw_ret ?_
     refine ⟨.f, by kernel_rfl, ?_⟩
     show XOi _ _ _ _ _ _ _ ⟨[(70, .f), (69, .i 10), (68, .p 0), (8, .i 10), (6, .f), (5, .u 0), (4, .u 0), (0, .p 0)], [(0, .cells (bx W xs ys f0 f1 f2 t0 t1 t2 sz lm ts ph scn fl os brk st b0 b1 lg lf pd wt dn k h i j v t f m 10 0 false false) 65)], 2⟩
     refine rki [] 3 3 [6, 5, 4, 8, 0] [0] [] trivial ?_
     refine en ?_
     refine an ?_
     refine xw_ret ?_
     refine juu_ret ?_
     exact ⟨.tup [.u 0, .u 0, .f], by kernel_rfl, _, .inl <| ⟨10, (by omega), rfl, rfl⟩, rfl, le_cutm ⟨by kernel_rfl, trivial⟩⟩
    ·
     replace h7 : (ldw xs ys (ix st h) / 72057594037927936) ≠ 255 := ne_of_beq_false h7
     refine xw_skip ?_
     refine an ?_
     refine xw_seq ?_
     refine dregk hmix (by kernel_rfl) ?_
     refine qri [] 11 0 [True, True, True, True] ⟨trivial, trivial, trivial, trivial, trivial⟩ ?_
     by_cases h8 : 0 ≤ i ∧ i < ((ldw xs ys (ix st h) / 4294967296) % 16777216)
     ·
      refine qc (oget_1 W xs ys (ix st h) i ‹_› ‹_› ‹_› ‹_› ‹_› ‹_› ‹_› ‹_› ‹_› ‹_›) ?_
      have h9 : 0 ≤ (ldw xs ys ((ix st h) + 2 + i)) ∧ (ldw xs ys ((ix st h) + 2 + i)) ≤ 18446744073709551615 := ldw_ok xs ys ((ix st h) + 2 + i) ‹_› ‹_›
      have h10 : 1 ≤ ((ix st h) + 2 + i) / 4294967296 ∧ ((ix st h) + 2 + i) / 4294967296 ≤ 2 ∧ ((ix st h) + 2 + i) % 4294967296 < W := by omega
      refine qri [] 7 12 [] trivial ?_
      refine qen ?_
      refine an ?_
      refine xw_seq ?_
      refine rg [(1, .f)] 2 ⟨[(62, .f), (8, .i 0), (10, .bool (isPtr (hL xs ys (ix st h)) (hM xs ys (ix st h)) i)), (9, .u (ldw xs ys ((ix st h) + 2 + i))), (7, .u (ix st h)), (6, .f), (5, .u 0), (4, .u 0), (0, .p 0), (1, .bool pt)], [(0, .cells (bx W xs ys f0 f1 f2 t0 t1 t2 sz lm ts ph scn fl os brk st b0 b1 lg lf pd wt dn k h i j v t f m 0 0 false false) 65)], 2⟩ [(0 != 0) = false] ⟨bne_eq_false_iff_eq.2 (by omega), trivial⟩ ?_
      refine cf ?_
      refine xw_skip ?_
      refine an ?_
      refine xw_seq ?_
      refine xw_seq ?_
      refine reg ?_
      refine rki [] 2 0 [64, 63, 8, 9, 7, 6, 5, 4, 0] [0] [] trivial ?_
      by_cases h11 : isPtr ((ldw xs ys (ix st h) / 4294967296) % 16777216) (ldw xs ys (ix st h) % 4294967296) i = true
      ·
       by_cases h12 : pt = true
       ·
        refine rki [(2, .t)] 1 2 [65, 8, 9, 7, 6, 5, 4, 0] [0] [((isPtr ((ldw xs ys (ix st h) / 4294967296) % 16777216) (ldw xs ys (ix st h) % 4294967296) i) == pt) = true] ⟨(by rw [show (isPtr ((ldw xs ys (ix st h) / 4294967296) % 16777216) (ldw xs ys (ix st h) % 4294967296) i) = true from (by first | exact decide_eq_true (by omega) | exact decide_eq_false (by omega) | (simp; done) | (simp; omega) | (simp_all; done) | (simp_all; omega) | grind), show pt = true from (by first | exact decide_eq_true (by omega) | exact decide_eq_false (by omega) | (simp; done) | (simp; omega) | (simp_all; done) | (simp_all; omega) | grind)]; rfl), trivial⟩ ?_
        refine en ?_
        refine an ?_
        refine ct ?_
        refine rgi [] 5 [6, 5, 4, 8, 0] [0] [] trivial ?_
        refine xw_ret ?_
        refine an_ret ?_
        refine juu_ret ?_
        exact ⟨.tup [.u (ix st h), .u (ldw xs ys ((ix st h) + 2 + i)), .t], by kernel_rfl, _, .inr <| ⟨(ldw xs ys ((ix st h) + 2 + i)), (by omega), (by omega), rfl, rfl⟩, rfl, le_cutm ⟨by kernel_rfl, trivial⟩⟩
       ·
        refine rki [(2, .f)] 1 2 [65, 8, 9, 7, 6, 5, 4, 0] [0] [((isPtr ((ldw xs ys (ix st h) / 4294967296) % 16777216) (ldw xs ys (ix st h) % 4294967296) i) == pt) = false] ⟨(by rw [show (isPtr ((ldw xs ys (ix st h) / 4294967296) % 16777216) (ldw xs ys (ix st h) % 4294967296) i) = true from (by first | exact decide_eq_true (by omega) | exact decide_eq_false (by omega) | (simp; done) | (simp; omega) | (simp_all; done) | (simp_all; omega) | grind), show pt = false from (by first | exact decide_eq_true (by omega) | exact decide_eq_false (by omega) | (simp; done) | (simp; omega) | (simp_all; done) | (simp_all; omega) | grind)]; rfl), trivial⟩ ?_
        refine en ?_
        refine an ?_
        refine cf ?_
        refine xw_skip ?_
        refine an ?_
        refine rgi [] 1 [8, 6, 5, 4, 0] [0] [] trivial ?_
        refine xw_seq ?_
        refine xw_label ?_
        refine an ?_
        refine xw_seq ?_
        refine reg ?_
        refine rk [] 2 0 ⟨[(69, .i 8), (68, .p 0), (8, .i 8), (6, .f), (5, .u 0), (4, .u 0), (0, .p 0)], [(0, .cells (bx W xs ys f0 f1 f2 t0 t1 t2 sz lm ts ph scn fl os brk st b0 b1 lg lf pd wt dn k h i j v t f m 0 0 false false) 65)], 2⟩ [] trivial ?_
        refine callx (f := 23) (args := [.p 0, .i 8]) (d := (some 70)) (by kernel_rfl) (xcall_of TT_ok Try.func23 rfl (by decide) (Nat.le_of_ble_eq_true (by kernel_rfl)) ?_)
        refine rgi [] 1 [4, 0, 1] [0] [] trivial ?_
        refine rgi [] 6 [4, 1] [0] [True, True] ⟨trivial, trivial, trivial⟩ ?_
        refine rgi [(1, .f)] 3 [4] [0] [(8 == 0) = false] ⟨beq_eq_false_iff_ne.2 (by omega), trivial⟩ ?_
        refine xw_ret ?_
        refine ⟨.f, by kernel_rfl, ?_⟩
        show XOi _ _ _ _ _ _ _ ⟨[(70, .f), (69, .i 8), (68, .p 0), (8, .i 8), (6, .f), (5, .u 0), (4, .u 0), (0, .p 0)], [(0, .cells (bx W xs ys f0 f1 f2 t0 t1 t2 sz lm ts ph scn fl os brk st b0 b1 lg lf pd wt dn k h i j v t f m 8 0 false false) 65)], 2⟩
        refine rki [] 3 3 [6, 5, 4, 8, 0] [0] [] trivial ?_
        refine en ?_
        refine an ?_
        refine xw_ret ?_
        refine juu_ret ?_
        exact ⟨.tup [.u 0, .u 0, .f], by kernel_rfl, _, .inl <| ⟨8, (by omega), rfl, rfl⟩, rfl, le_cutm ⟨by kernel_rfl, trivial⟩⟩
      ·
       by_cases h12 : pt = true
       ·
        refine rki [(2, .f)] 1 2 [65, 8, 9, 7, 6, 5, 4, 0] [0] [((isPtr ((ldw xs ys (ix st h) / 4294967296) % 16777216) (ldw xs ys (ix st h) % 4294967296) i) == pt) = false] ⟨(by rw [show (isPtr ((ldw xs ys (ix st h) / 4294967296) % 16777216) (ldw xs ys (ix st h) % 4294967296) i) = false from (by first | exact decide_eq_true (by omega) | exact decide_eq_false (by omega) | (simp; done) | (simp; omega) | (simp_all; done) | (simp_all; omega) | grind), show pt = true from (by first | exact decide_eq_true (by omega) | exact decide_eq_false (by omega) | (simp; done) | (simp; omega) | (simp_all; done) | (simp_all; omega) | grind)]; rfl), trivial⟩ ?_
        refine en ?_
        refine an ?_
        refine cf ?_
        refine xw_skip ?_
        refine an ?_
        refine rgi [] 1 [8, 6, 5, 4, 0] [0] [] trivial ?_
        refine xw_seq ?_
        refine xw_label ?_
        refine an ?_
        refine xw_seq ?_
        refine reg ?_
        refine rk [] 2 0 ⟨[(69, .i 8), (68, .p 0), (8, .i 8), (6, .f), (5, .u 0), (4, .u 0), (0, .p 0)], [(0, .cells (bx W xs ys f0 f1 f2 t0 t1 t2 sz lm ts ph scn fl os brk st b0 b1 lg lf pd wt dn k h i j v t f m 0 0 false false) 65)], 2⟩ [] trivial ?_
        refine callx (f := 23) (args := [.p 0, .i 8]) (d := (some 70)) (by kernel_rfl) (xcall_of TT_ok Try.func23 rfl (by decide) (Nat.le_of_ble_eq_true (by kernel_rfl)) ?_)
        refine rgi [] 1 [4, 0, 1] [0] [] trivial ?_
        refine rgi [] 6 [4, 1] [0] [True, True] ⟨trivial, trivial, trivial⟩ ?_
        refine rgi [(1, .f)] 3 [4] [0] [(8 == 0) = false] ⟨beq_eq_false_iff_ne.2 (by omega), trivial⟩ ?_
        refine xw_ret ?_
        refine ⟨.f, by kernel_rfl, ?_⟩
        show XOi _ _ _ _ _ _ _ ⟨[(70, .f), (69, .i 8), (68, .p 0), (8, .i 8), (6, .f), (5, .u 0), (4, .u 0), (0, .p 0)], [(0, .cells (bx W xs ys f0 f1 f2 t0 t1 t2 sz lm ts ph scn fl os brk st b0 b1 lg lf pd wt dn k h i j v t f m 8 0 false false) 65)], 2⟩
        refine rki [] 3 3 [6, 5, 4, 8, 0] [0] [] trivial ?_
        refine en ?_
        refine an ?_
        refine xw_ret ?_
        refine juu_ret ?_
        exact ⟨.tup [.u 0, .u 0, .f], by kernel_rfl, _, .inl <| ⟨8, (by omega), rfl, rfl⟩, rfl, le_cutm ⟨by kernel_rfl, trivial⟩⟩
       ·
        refine rki [(2, .t)] 1 2 [65, 8, 9, 7, 6, 5, 4, 0] [0] [((isPtr ((ldw xs ys (ix st h) / 4294967296) % 16777216) (ldw xs ys (ix st h) % 4294967296) i) == pt) = true] ⟨(by rw [show (isPtr ((ldw xs ys (ix st h) / 4294967296) % 16777216) (ldw xs ys (ix st h) % 4294967296) i) = false from (by first | exact decide_eq_true (by omega) | exact decide_eq_false (by omega) | (simp; done) | (simp; omega) | (simp_all; done) | (simp_all; omega) | grind), show pt = false from (by first | exact decide_eq_true (by omega) | exact decide_eq_false (by omega) | (simp; done) | (simp; omega) | (simp_all; done) | (simp_all; omega) | grind)]; rfl), trivial⟩ ?_
        refine en ?_
        refine an ?_
        refine ct ?_
        refine rgi [] 5 [6, 5, 4, 8, 0] [0] [] trivial ?_
        refine xw_ret ?_
        refine an_ret ?_
        refine juu_ret ?_
        exact ⟨.tup [.u (ix st h), .u (ldw xs ys ((ix st h) + 2 + i)), .t], by kernel_rfl, _, .inr <| ⟨(ldw xs ys ((ix st h) + 2 + i)), (by omega), (by omega), rfl, rfl⟩, rfl, le_cutm ⟨by kernel_rfl, trivial⟩⟩
     ·
      refine qc (oget_2 W xs ys (ix st h) i ‹_› ‹_› ‹_› ‹_› ‹_› ‹_› ‹_› ‹_› ‹_› ‹_›) ?_
      refine qri [] 7 12 [] trivial ?_
      refine qen ?_
      refine an ?_
      refine xw_seq ?_
      refine rg [(1, .t)] 2 ⟨[(62, .t), (8, .i 7), (10, .f), (9, .u 0), (7, .u (ix st h)), (6, .f), (5, .u 0), (4, .u 0), (0, .p 0), (1, .bool pt)], [(0, .cells (bx W xs ys f0 f1 f2 t0 t1 t2 sz lm ts ph scn fl os brk st b0 b1 lg lf pd wt dn k h i j v t f m 0 0 false false) 65)], 2⟩ [(7 != 0) = true] ⟨bne_iff_ne.2 (by omega), trivial⟩ ?_
      refine ct ?_
      refine xw_goto ?_
      refine an_goto ?_
      refine juu ?_
      refine uj_step ?_
      refine xw_seq ?_
      refine xw_skip ?_
      refine an ?_
      refine xw_seq ?_
      refine reg ?_
      refine rki [] 2 0 [69, 68, 8, 6, 5, 4, 0] [0] [] trivial ?_
      refine callx (f := 23) (args := [.p 0, .i 7]) (d := (some 70)) (by kernel_rfl) (xcall_of TT_ok Try.func23 rfl (by decide) (Nat.le_of_ble_eq_true (by kernel_rfl)) ?_)
      refine rgi [] 1 [4, 0, 1] [0] [] trivial ?_
      refine rgi [] 6 [4, 1] [0] [True, True] ⟨trivial, trivial, trivial⟩ ?_
      refine rg [(1, .f)] 3 ⟨[(4, .f)], [(0, .cells (bx W xs ys f0 f1 f2 t0 t1 t2 sz lm ts ph scn fl os brk st b0 b1 lg lf pd wt dn k h i j v t f m 7 0 false false) 65)], 2⟩ [(7 == 0) = false] ⟨beq_eq_false_iff_ne.2 (by omega), trivial⟩ ?_
      refine xw_ret ?_
      refine ⟨.f, by kernel_rfl, ?_⟩
      refine rki [] 3 3 [6, 5, 4, 8, 0] [0] [] trivial ?_
      refine en ?_
      refine an ?_
      refine xw_ret ?_
      refine juu_ret ?_
      exact ⟨.tup [.u 0, .u 0, .f], by kernel_rfl, _, .inl <| ⟨7, (by omega), rfl, rfl⟩, rfl, le_cutm ⟨by kernel_rfl, trivial⟩⟩
   ·
    refine pc (oat_2 W xs ys (ix st h) ‹_› ‹_› ‹_› ‹_› ‹_› ‹_› ‹_›) ?_
    have h4 : (oErr W xs ys (ix st h)) = 2 ∨ (oErr W xs ys (ix st h)) = 10 := oErr_no W xs ys (ix st h) (by omega)
    refine rki [] 5 7 [8, 11, 7, 6, 5, 4, 0, 1] [1, 0] [True] ⟨trivial, trivial⟩ ?_
    refine en ?_
    refine an ?_
    refine xw_seq ?_
    refine rgi [(1, .t)] 7 [44, 8, 7, 6, 5, 4, 0, 1] [0] [((oErr W xs ys (ix st h)) != 0) = true, True] ⟨bne_iff_ne.2 (by omega), trivial, trivial⟩ ?_
    refine ct ?_
    refine rgi [] 1 [8, 7, 6, 5, 4, 0, 1] [0] [] trivial ?_
    refine xw_goto ?_
    refine an_goto ?_
    refine juu ?_
    refine uj_step ?_
    refine xw_seq ?_
    refine xw_skip ?_
    refine an ?_
    refine xw_seq ?_
    refine reg ?_
    refine rk [] 2 0 ⟨[(69, .i 10), (68, .p 0), (8, .i 10), (6, .f), (5, .u 0), (4, .u 0), (0, .p 0)], [(0, .cells (bx W xs ys f0 f1 f2 t0 t1 t2 sz lm ts ph scn fl os brk st b0 b1 lg lf pd wt dn k h i j v t f m 0 0 false false) 65)], 2⟩ [] trivial ?_
    refine callx (f := 23) (args := [.p 0, .i 10]) (d := (some 70)) (by kernel_rfl) (xcall_of TT_ok Try.func23 rfl (by decide) (Nat.le_of_ble_eq_true (by kernel_rfl)) ?_)
    refine rgi [] 1 [4, 0, 1] [0] [] trivial ?_
    refine rgi [] 6 [4, 1] [0] [True, True] ⟨trivial, trivial, trivial⟩ ?_
    refine rgi [(1, .f)] 3 [4] [0] [(10 == 0) = false] ⟨beq_eq_false_iff_ne.2 (by omega), trivial⟩ ?_
    refine xw_ret ?_
    refine ⟨.f, by kernel_rfl, ?_⟩
    show XOi _ _ _ _ _ _ _ ⟨[(70, .f), (69, .i 10), (68, .p 0), (8, .i 10), (6, .f), (5, .u 0), (4, .u 0), (0, .p 0)], [(0, .cells (bx W xs ys f0 f1 f2 t0 t1 t2 sz lm ts ph scn fl os brk st b0 b1 lg lf pd wt dn k h i j v t f m 10 0 false false) 65)], 2⟩
    refine rki [] 3 3 [6, 5, 4, 8, 0] [0] [] trivial ?_
    refine en ?_
    refine an ?_
    refine xw_ret ?_
    refine juu_ret ?_
    exact ⟨.tup [.u 0, .u 0, .f], by kernel_rfl, _, .inl <| ⟨10, (by omega), rfl, rfl⟩, rfl, le_cutm ⟨by kernel_rfl, trivial⟩⟩

theorem wset (W : Int) (xs ys : List Int) (f0 f1 f2 t0 t1 t2 sz lm : Int) (ts : List Th) (ph scn fl : Int) (os : List Int) (brk : Int) (st : List Int) (b0 b1 : Int) (lg : List Ent) (lf : List OpV) (pd : List Ent) (wt : Bool) (dn : List AnsV) (k h i j v t f m a w : Int) (hp0 : 16 ≤ W ∧ W ≤ 4096) (hp1 : (xs.length : Int) = W) (hp2 : (ys.length : Int) = W) (hp3 : U64s xs) (hp4 : U64s ys) (hp5 : -9223372036854775808 ≤ i ∧ i ≤ 9223372036854775807) (hp6 : 0 ≤ a ∧ a ≤ 18446744073709551615) (hp7 : 0 ≤ w ∧ w ≤ 18446744073709551615) : MCall Try.prog 40 [.p 0, .u a, .u w] [(0, .cells (bx W xs ys f0 f1 f2 t0 t1 t2 sz lm ts ph scn fl os brk st b0 b1 lg lf pd wt dn k h i j v t f m 0 0 false false) 65)] 1 1 (fun zx zm => (∃ X1 : List Int, ∃ Y1 : List Int, ∃ pd1 : List Ent, ((X1.length : Int) = W) ∧ ((Y1.length : Int) = W) ∧ (U64s X1) ∧ (U64s Y1) ∧ ((ph ≠ 1 ∧ pd1 = pd) ∨ pd1 = [(a, i)]) ∧ zx = .tup [] ∧ zm = [(0, .cells (bx W X1 Y1 f0 f1 f2 t0 t1 t2 sz lm ts ph scn fl os brk st b0 b1 lg lf pd1 wt dn k h i j v t f m 0 0 false false) 65)])) := by
 refine mcall_of (by kernel_rfl) (by kernel_rfl) (xcall_of TT_ok Try.func40 rfl (by decide) (Nat.le_of_ble_eq_true (by kernel_rfl)) ?_)
 refine xw_seq ?_
 by_cases h0 : ((oErr W xs ys a) = 0) ∧ ((ldw xs ys a / 72057594037927936) ≠ 255) ∧ (0 ≤ i ∧ i < ((ldw xs ys a / 4294967296) % 16777216))
 ·
  refine sreg hmix [([(0, .cells (bx W xs ys f0 f1 f2 t0 t1 t2 sz lm ts ph scn fl os brk st b0 b1 lg lf pd wt dn k h i j v t f m 0 0 false false) 65)], 1), ([(0, .cells (bx W (stx xs (a + 2 + i) w) (sty ys (a + 2 + i) w) f0 f1 f2 t0 t1 t2 sz lm ts ph scn fl os brk st b0 b1 lg lf pd wt dn k h i j v t f m 0 0 false false) 65)], 1)] [20] [(2, [1]), (3, [1, 2]), (4, [1, 2, 3]), (5, [1, 2, 3, 4]), (8, [7]), (9, [7, 8]), (10, [7, 8, 9]), (11, [7, 8, 9, 10]), (13, [1, 2, 3, 4, 5, 6, 7, 8, 9, 10, 11, 12]), (14, [1, 2, 3, 4, 5, 6, 7, 8, 9, 10, 11, 12, 13]), (15, [1, 2, 3, 4, 5, 6, 7, 8, 9, 10, 11, 12, 13, 14]), (16, [1, 2, 3, 4, 5, 6, 7, 8, 9, 10, 11, 12, 13, 14]), (17, [0, 1, 2, 3, 4, 5, 6, 7, 8, 9, 10, 11, 12, 13, 14, 15]), (18, [0, 1, 2, 3, 4, 5, 6, 7, 8, 9, 10, 11, 12, 13, 14, 15, 17]), (19, [0, 1, 2, 3, 4, 5, 6, 7, 8, 9, 10, 11, 12, 13, 14, 15, 17, 18]), (20, [0, 1, 2, 3, 4, 5, 6, 7, 8, 9, 10, 11, 12, 13, 14, 15, 17, 18, 19])] (by kernel_rfl) (by kernel_rfl) (by kernel_rfl) (by kernel_rfl) (by kernel_rfl) ?_
  refine sri [] 13 0 [True, True, True, True, True, True, True, True, True, True, True, True, True] ⟨trivial, trivial, trivial, trivial, trivial, trivial, trivial, trivial, trivial, trivial, trivial, trivial, trivial, trivial⟩ ?_
  refine sc (oset_1 W xs ys a i w ‹_› ‹_› ‹_› ‹_› ‹_› ‹_› ‹_› ‹_› (by omega) (by omega) (by omega)) ?_
  obtain ⟨h1, h2, h3⟩ := oErr_ok W xs ys a (by omega)
  obtain ⟨h4, h5, h6, h7⟩ := stx_ok W xs ys (a + 2 + i) w ‹_› ‹_› ‹_› ‹_› (by omega)
  refine sri [] 7 14 [True, True, True, True, True, True, True, sm ([(0, .cells (bx W (stx xs (a + 2 + i) w) (sty ys (a + 2 + i) w) f0 f1 f2 t0 t1 t2 sz lm ts ph scn fl os brk st b0 b1 lg lf pd wt dn k h i j v t f m 0 0 false false) 65)] : Mem), sm (1 : Nat)] ⟨trivial, trivial, trivial, trivial, trivial, trivial, trivial, rfl, rfl, trivial⟩ ?_
  refine sen ?_
  refine an ?_
  refine rgi [(5, .bool (ph == 1))] 6 [31, 0, 1] [0] [True, True, sm (ph == 1)] ⟨trivial, trivial, rfl, trivial⟩ ?_
  refine xw_cond (b := (ph == 1)) (by kernel_rfl) (fun h8 => ?_) (fun h8 => ?_)
  ·
   replace h8 : ph = 1 := eq_of_beq h8
   refine re [(8, .t)] 13 ⟨[], [(0, .cells (hpr W (stx xs (a + 2 + i) w) (sty ys (a + 2 + i) w) f0 f1 f2 t0 t1 t2 sz lm ts ph scn fl os brk [(s64 st), .i b0, .i b1, (sE lg), (sO lf), .sl false 2 (List.map entS [(a, i)]), .bool wt, (sA dn), .i k, .i h, .i i, .i j, .u v, .i t, .i f, .u m, .i 0, .u 0, .f, .f]) 65)], 1⟩ [True, True, True, True] ⟨trivial, trivial, trivial, trivial, trivial⟩ ?_
   exact ⟨.tup [], by kernel_rfl, _, ⟨(stx xs (a + 2 + i) w), (sty ys (a + 2 + i) w), [(a, i)], (by omega), (by omega), (by assumption), (by assumption), (by first | exact .inr rfl | exact .inl ⟨by omega, rfl⟩), rfl, rfl⟩, rfl, le_cutm ⟨by kernel_rfl, trivial⟩⟩
  ·
   replace h8 : ph ≠ 1 := ne_of_beq_false h8
   refine xw_skip ?_
   exact ⟨.tup [], by kernel_rfl, _, ⟨(stx xs (a + 2 + i) w), (sty ys (a + 2 + i) w), pd, (by omega), (by omega), (by assumption), (by assumption), (by first | exact .inr rfl | exact .inl ⟨by omega, rfl⟩), rfl, rfl⟩, rfl, le_cutm ⟨by kernel_rfl, trivial⟩⟩
 ·
  by_cases h1 : ((oErr W xs ys a) = 0) ∧ ((ldw xs ys a / 72057594037927936) ≠ 255) ∧ (¬ (0 ≤ i ∧ i < ((ldw xs ys a / 4294967296) % 16777216)))
  ·
   refine sreg hmix [([(0, .cells (bx W xs ys f0 f1 f2 t0 t1 t2 sz lm ts ph scn fl os brk st b0 b1 lg lf pd wt dn k h i j v t f m 0 0 false false) 65)], 1), ([(0, .cells (bx W xs ys f0 f1 f2 t0 t1 t2 sz lm ts ph scn fl os brk st b0 b1 lg lf pd wt dn k h i j v t f m 0 0 false false) 65)], 1)] [20] [(2, [1]), (3, [1, 2]), (4, [1, 2, 3]), (5, [1, 2, 3, 4]), (8, [7]), (9, [7, 8]), (10, [7, 8, 9]), (11, [7, 8, 9, 10]), (13, [1, 2, 3, 4, 5, 6, 7, 8, 9, 10, 11, 12]), (14, [1, 2, 3, 4, 5, 6, 7, 8, 9, 10, 11, 12, 13]), (15, [1, 2, 3, 4, 5, 6, 7, 8, 9, 10, 11, 12, 13, 14]), (16, [1, 2, 3, 4, 5, 6, 7, 8, 9, 10, 11, 12, 13, 14]), (17, [0, 1, 2, 3, 4, 5, 6, 7, 8, 9, 10, 11, 12, 13, 14, 15]), (18, [0, 1, 2, 3, 4, 5, 6, 7, 8, 9, 10, 11, 12, 13, 14, 15, 17]), (19, [0, 1, 2, 3, 4, 5, 6, 7, 8, 9, 10, 11, 12, 13, 14, 15, 17, 18]), (20, [0, 1, 2, 3, 4, 5, 6, 7, 8, 9, 10, 11, 12, 13, 14, 15, 17, 18, 19])] (by kernel_rfl) (by kernel_rfl) (by kernel_rfl) (by kernel_rfl) (by kernel_rfl) ?_
   refine sri [] 13 0 [True, True, True, True, True, True, True, True, True, True, True, True, True] ⟨trivial, trivial, trivial, trivial, trivial, trivial, trivial, trivial, trivial, trivial, trivial, trivial, trivial, trivial⟩ ?_
   refine sc (oset_2 W xs ys a i w ‹_› ‹_› ‹_› ‹_› ‹_› ‹_› ‹_› ‹_› (by omega) (by omega) (by omega)) ?_
   obtain ⟨h2, h3, h4⟩ := oErr_ok W xs ys a (by omega)
   refine sri [] 7 14 [True, True, True, True, True, True, True, sm ([(0, .cells (bx W xs ys f0 f1 f2 t0 t1 t2 sz lm ts ph scn fl os brk st b0 b1 lg lf pd wt dn k h i j v t f m 0 0 false false) 65)] : Mem), sm (1 : Nat)] ⟨trivial, trivial, trivial, trivial, trivial, trivial, trivial, rfl, rfl, trivial⟩ ?_
   refine sen ?_
   refine an ?_
   refine rgi [(5, .bool (ph == 1))] 6 [31, 0, 1] [0] [True, True, sm (ph == 1)] ⟨trivial, trivial, rfl, trivial⟩ ?_
   refine xw_cond (b := (ph == 1)) (by kernel_rfl) (fun h5 => ?_) (fun h5 => ?_)
   ·
    replace h5 : ph = 1 := eq_of_beq h5
    refine re [(8, .t)] 13 ⟨[], [(0, .cells (hpr W xs ys f0 f1 f2 t0 t1 t2 sz lm ts ph scn fl os brk [(s64 st), .i b0, .i b1, (sE lg), (sO lf), .sl false 2 (List.map entS [(a, i)]), .bool wt, (sA dn), .i k, .i h, .i i, .i j, .u v, .i t, .i f, .u m, .i 0, .u 0, .f, .f]) 65)], 1⟩ [True, True, True, True] ⟨trivial, trivial, trivial, trivial, trivial⟩ ?_
    exact ⟨.tup [], by kernel_rfl, _, ⟨xs, ys, [(a, i)], (by omega), (by omega), (by assumption), (by assumption), (by first | exact .inr rfl | exact .inl ⟨by omega, rfl⟩), rfl, rfl⟩, rfl, le_cutm ⟨by kernel_rfl, trivial⟩⟩
   ·
    replace h5 : ph ≠ 1 := ne_of_beq_false h5
    refine xw_skip ?_
    exact ⟨.tup [], by kernel_rfl, _, ⟨xs, ys, pd, (by omega), (by omega), (by assumption), (by assumption), (by first | exact .inr rfl | exact .inl ⟨by omega, rfl⟩), rfl, rfl⟩, rfl, le_cutm ⟨by kernel_rfl, trivial⟩⟩
  ·
   by_cases h2 : ((oErr W xs ys a) = 0) ∧ ((ldw xs ys a / 72057594037927936) = 255)
   ·
    refine sreg hmix [([(0, .cells (bx W xs ys f0 f1 f2 t0 t1 t2 sz lm ts ph scn fl os brk st b0 b1 lg lf pd wt dn k h i j v t f m 0 0 false false) 65)], 1), ([(0, .cells (bx W xs ys f0 f1 f2 t0 t1 t2 sz lm ts ph scn fl os brk st b0 b1 lg lf pd wt dn k h i j v t f m 0 0 false false) 65)], 1)] [20] [(2, [1]), (3, [1, 2]), (4, [1, 2, 3]), (5, [1, 2, 3, 4]), (8, [7]), (9, [7, 8]), (10, [7, 8, 9]), (11, [7, 8, 9, 10]), (13, [1, 2, 3, 4, 5, 6, 7, 8, 9, 10, 11, 12]), (14, [1, 2, 3, 4, 5, 6, 7, 8, 9, 10, 11, 12, 13]), (15, [1, 2, 3, 4, 5, 6, 7, 8, 9, 10, 11, 12, 13, 14]), (16, [1, 2, 3, 4, 5, 6, 7, 8, 9, 10, 11, 12, 13, 14]), (17, [0, 1, 2, 3, 4, 5, 6, 7, 8, 9, 10, 11, 12, 13, 14, 15]), (18, [0, 1, 2, 3, 4, 5, 6, 7, 8, 9, 10, 11, 12, 13, 14, 15, 17]), (19, [0, 1, 2, 3, 4, 5, 6, 7, 8, 9, 10, 11, 12, 13, 14, 15, 17, 18]), (20, [0, 1, 2, 3, 4, 5, 6, 7, 8, 9, 10, 11, 12, 13, 14, 15, 17, 18, 19])] (by kernel_rfl) (by kernel_rfl) (by kernel_rfl) (by kernel_rfl) (by kernel_rfl) ?_
    refine sri [] 13 0 [True, True, True, True, True, True, True, True, True, True, True, True, True] ⟨trivial, trivial, trivial, trivial, trivial, trivial, trivial, trivial, trivial, trivial, trivial, trivial, trivial, trivial⟩ ?_
    refine sc (oset_3 W xs ys a i w ‹_› ‹_› ‹_› ‹_› ‹_› ‹_› ‹_› ‹_› (by omega) (by omega)) ?_
    obtain ⟨h3, h4, h5⟩ := oErr_ok W xs ys a (by omega)
    refine sri [] 7 14 [True, True, True, True, True, True, True, sm ([(0, .cells (bx W xs ys f0 f1 f2 t0 t1 t2 sz lm ts ph scn fl os brk st b0 b1 lg lf pd wt dn k h i j v t f m 0 0 false false) 65)] : Mem), sm (1 : Nat)] ⟨trivial, trivial, trivial, trivial, trivial, trivial, trivial, rfl, rfl, trivial⟩ ?_
    refine sen ?_
    refine an ?_
    refine rgi [(5, .bool (ph == 1))] 6 [31, 0, 1] [0] [True, True, sm (ph == 1)] ⟨trivial, trivial, rfl, trivial⟩ ?_
    refine xw_cond (b := (ph == 1)) (by kernel_rfl) (fun h6 => ?_) (fun h6 => ?_)
    ·
     replace h6 : ph = 1 := eq_of_beq h6
     refine re [(8, .t)] 13 ⟨[], [(0, .cells (hpr W xs ys f0 f1 f2 t0 t1 t2 sz lm ts ph scn fl os brk [(s64 st), .i b0, .i b1, (sE lg), (sO lf), .sl false 2 (List.map entS [(a, i)]), .bool wt, (sA dn), .i k, .i h, .i i, .i j, .u v, .i t, .i f, .u m, .i 0, .u 0, .f, .f]) 65)], 1⟩ [True, True, True, True] ⟨trivial, trivial, trivial, trivial, trivial⟩ ?_
     exact ⟨.tup [], by kernel_rfl, _, ⟨xs, ys, [(a, i)], (by omega), (by omega), (by assumption), (by assumption), (by first | exact .inr rfl | exact .inl ⟨by omega, rfl⟩), rfl, rfl⟩, rfl, le_cutm ⟨by kernel_rfl, trivial⟩⟩
    ·
     replace h6 : ph ≠ 1 := ne_of_beq_false h6
     refine xw_skip ?_
     exact ⟨.tup [], by kernel_rfl, _, ⟨xs, ys, pd, (by omega), (by omega), (by assumption), (by assumption), (by first | exact .inr rfl | exact .inl ⟨by omega, rfl⟩), rfl, rfl⟩, rfl, le_cutm ⟨by kernel_rfl, trivial⟩⟩
   ·
    refine sreg hmix [([(0, .cells (bx W xs ys f0 f1 f2 t0 t1 t2 sz lm ts ph scn fl os brk st b0 b1 lg lf pd wt dn k h i j v t f m 0 0 false false) 65)], 1), ([(0, .cells (bx W xs ys f0 f1 f2 t0 t1 t2 sz lm ts ph scn fl os brk st b0 b1 lg lf pd wt dn k h i j v t f m 0 0 false false) 65)], 1)] [20] [(2, [1]), (3, [1, 2]), (4, [1, 2, 3]), (5, [1, 2, 3, 4]), (8, [7]), (9, [7, 8]), (10, [7, 8, 9]), (11, [7, 8, 9, 10]), (13, [1, 2, 3, 4, 5, 6, 7, 8, 9, 10, 11, 12]), (14, [1, 2, 3, 4, 5, 6, 7, 8, 9, 10, 11, 12, 13]), (15, [1, 2, 3, 4, 5, 6, 7, 8, 9, 10, 11, 12, 13, 14]), (16, [1, 2, 3, 4, 5, 6, 7, 8, 9, 10, 11, 12, 13, 14]), (17, [0, 1, 2, 3, 4, 5, 6, 7, 8, 9, 10, 11, 12, 13, 14, 15]), (18, [0, 1, 2, 3, 4, 5, 6, 7, 8, 9, 10, 11, 12, 13, 14, 15, 17]), (19, [0, 1, 2, 3, 4, 5, 6, 7, 8, 9, 10, 11, 12, 13, 14, 15, 17, 18]), (20, [0, 1, 2, 3, 4, 5, 6, 7, 8, 9, 10, 11, 12, 13, 14, 15, 17, 18, 19])] (by kernel_rfl) (by kernel_rfl) (by kernel_rfl) (by kernel_rfl) (by kernel_rfl) ?_
    refine sri [] 13 0 [True, True, True, True, True, True, True, True, True, True, True, True, True] ⟨trivial, trivial, trivial, trivial, trivial, trivial, trivial, trivial, trivial, trivial, trivial, trivial, trivial, trivial⟩ ?_
    refine sc (oset_4 W xs ys a i w ‹_› ‹_› ‹_› ‹_› ‹_› ‹_› ‹_› ‹_› (by omega)) ?_
    have h3 : (oErr W xs ys a) = 2 ∨ (oErr W xs ys a) = 10 := oErr_no W xs ys a (by omega)
    refine sri [] 7 14 [True, True, True, True, True, True, True, sm ([(0, .cells (bx W xs ys f0 f1 f2 t0 t1 t2 sz lm ts ph scn fl os brk st b0 b1 lg lf pd wt dn k h i j v t f m 0 0 false false) 65)] : Mem), sm (1 : Nat)] ⟨trivial, trivial, trivial, trivial, trivial, trivial, trivial, rfl, rfl, trivial⟩ ?_
    refine sen ?_
    refine an ?_
    refine rgi [(5, .bool (ph == 1))] 6 [31, 0, 1] [0] [True, True, sm (ph == 1)] ⟨trivial, trivial, rfl, trivial⟩ ?_
    refine xw_cond (b := (ph == 1)) (by kernel_rfl) (fun h4 => ?_) (fun h4 => ?_)
    ·
     replace h4 : ph = 1 := eq_of_beq h4
     refine re [(8, .t)] 13 ⟨[], [(0, .cells (hpr W xs ys f0 f1 f2 t0 t1 t2 sz lm ts ph scn fl os brk [(s64 st), .i b0, .i b1, (sE lg), (sO lf), .sl false 2 (List.map entS [(a, i)]), .bool wt, (sA dn), .i k, .i h, .i i, .i j, .u v, .i t, .i f, .u m, .i 0, .u 0, .f, .f]) 65)], 1⟩ [True, True, True, True] ⟨trivial, trivial, trivial, trivial, trivial⟩ ?_
     exact ⟨.tup [], by kernel_rfl, _, ⟨xs, ys, [(a, i)], (by omega), (by omega), (by assumption), (by assumption), (by first | exact .inr rfl | exact .inl ⟨by omega, rfl⟩), rfl, rfl⟩, rfl, le_cutm ⟨by kernel_rfl, trivial⟩⟩
    ·
     replace h4 : ph ≠ 1 := ne_of_beq_false h4
     refine xw_skip ?_
     exact ⟨.tup [], by kernel_rfl, _, ⟨xs, ys, pd, (by omega), (by omega), (by assumption), (by assumption), (by first | exact .inr rfl | exact .inl ⟨by omega, rfl⟩), rfl, rfl⟩, rfl, le_cutm ⟨by kernel_rfl, trivial⟩⟩

theorem wpushh (W : Int) (xs ys : List Int) (f0 f1 f2 t0 t1 t2 sz lm : Int) (ts : List Th) (ph scn fl : Int) (os : List Int) (brk : Int) (st : List Int) (b0 b1 : Int) (lg : List Ent) (lf : List OpV) (pd : List Ent) (wt : Bool) (dn : List AnsV) (k h i j v t f m a : Int) (hp0 : U64s st) (hp1 : (st.length : Int) * 8 ≤ 140737488355000) (hp2 : 0 ≤ a ∧ a ≤ 18446744073709551615) : MCall Try.prog 36 [.p 0, .u a] [(0, .cells (bx W xs ys f0 f1 f2 t0 t1 t2 sz lm ts ph scn fl os brk st b0 b1 lg lf pd wt dn k h i j v t f m 0 0 false false) 65)] 1 1 (fun zx zm => (∃ st1 : List Int, ∃ e1 : Int, (U64s st1) ∧ ((st1.length : Int) * 8 ≤ 140737488355000) ∧ (0 ≤ e1 ∧ e1 ≤ 100) ∧ zx = .tup [] ∧ zm = [(0, .cells (bx W xs ys f0 f1 f2 t0 t1 t2 sz lm ts ph scn fl os brk st1 b0 b1 lg lf pd wt dn k h i j v t f m e1 0 false false) 65)])) := by
 refine mcall_of (by kernel_rfl) (by kernel_rfl) (xcall_of TT_ok Try.func36 rfl (by decide) (Nat.le_of_ble_eq_true (by kernel_rfl)) ?_)
 refine xw_seq ?_
 refine reg ?_
 refine rki [] 6 0 [12, 11, 0] [0] [True, True] ⟨trivial, trivial, trivial⟩ ?_
 by_cases h0 : 16 ≤ (st.length : Int)
 ·
  refine pc (spush_1 st a (by omega) ‹_› ‹_›) ?_
  refine rki [] 5 7 [5, 4, 0] [0] [] trivial ?_
  refine en ?_
  refine an ?_
  refine xw_seq ?_
  refine reg ?_
  refine rki [] 2 0 [17, 16, 4, 0] [0] [] trivial ?_
  refine callx (f := 23) (args := [.p 0, .i 4]) (d := (some 18)) (by kernel_rfl) (xcall_of TT_ok Try.func23 rfl (by decide) (Nat.le_of_ble_eq_true (by kernel_rfl)) ?_)
  refine rg [] 1 ⟨[(4, .f), (0, .p 0), (1, .i 4)], [(0, .cells (bx W xs ys f0 f1 f2 t0 t1 t2 sz lm ts ph scn fl os brk st b0 b1 lg lf pd wt dn k h i j v t f m 0 0 false false) 65)], 1⟩ [] trivial ?_
  refine rgi [] 6 [4, 1] [0] [True, True] ⟨trivial, trivial, trivial⟩ ?_
  refine rgi [(1, .f)] 3 [4] [0] [(4 == 0) = false] ⟨beq_eq_false_iff_ne.2 (by omega), trivial⟩ ?_
  refine xw_ret ?_
  refine ⟨.f, by kernel_rfl, ?_⟩
  refine en ?_
  refine an ?_
  refine re [] 6 ⟨[], [(0, .cells (bx W xs ys f0 f1 f2 t0 t1 t2 sz lm ts ph scn fl os brk st b0 b1 lg lf pd wt dn k h i j v t f m 4 0 false false) 65)], 1⟩ [True, True] ⟨trivial, trivial, trivial⟩ ?_
  exact ⟨.tup [], by kernel_rfl, _, ⟨st, 4, (by first | assumption | exact U64s.append (by assumption) (U64s.cons (by omega) U64s.nil)), (by first | omega | (simp; omega)), (by omega), rfl, rfl⟩, rfl, le_cutm ⟨by kernel_rfl, trivial⟩⟩
 ·
  refine pc (spush_2 st a (by omega) ‹_› (by omega)) ?_
  refine rki [] 5 7 [5, 4, 0] [0] [] trivial ?_
  refine en ?_
  refine an ?_
  refine xw_seq ?_
  refine reg ?_
  refine rki [] 2 0 [17, 16, 4, 0] [0] [] trivial ?_
  refine callx (f := 23) (args := [.p 0, .i 0]) (d := (some 18)) (by kernel_rfl) (xcall_of TT_ok Try.func23 rfl (by decide) (Nat.le_of_ble_eq_true (by kernel_rfl)) ?_)
  refine rg [] 1 ⟨[(4, .f), (0, .p 0), (1, .i 0)], [(0, .cells (bx W xs ys f0 f1 f2 t0 t1 t2 sz lm ts ph scn fl os brk st b0 b1 lg lf pd wt dn k h i j v t f m 0 0 false false) 65)], 1⟩ [] trivial ?_
  refine rgi [] 6 [4, 1] [0] [True, True] ⟨trivial, trivial, trivial⟩ ?_
  refine rgi [(1, .t)] 3 [4] [0] [(0 == 0) = true] ⟨beq_iff_eq.2 (by omega), trivial⟩ ?_
  refine xw_ret ?_
  refine ⟨.t, by kernel_rfl, ?_⟩
  refine en ?_
  refine an ?_
  refine re [] 6 ⟨[], [(0, .cells (hpr W xs ys f0 f1 f2 t0 t1 t2 sz lm ts ph scn fl os brk (tcsr (st ++ [a]) b0 b1 lg lf pd wt dn [.i k, .i h, .i i, .i j, .u v, .i t, .i f, .u m, .i 0, .u 0, .f, .f])) 65)], 1⟩ [True, True] ⟨trivial, trivial, trivial⟩ ?_
  exact ⟨.tup [], by kernel_rfl, _, ⟨(st ++ [a]), 0, (by first | assumption | exact U64s.append (by assumption) (U64s.cons (by omega) U64s.nil)), (by first | omega | (simp; omega)), (by omega), rfl, rfl⟩, rfl, le_cutm ⟨by kernel_rfl, trivial⟩⟩

theorem wwrite (W : Int) (xs ys : List Int) (f0 f1 f2 t0 t1 t2 sz lm : Int) (ts : List Th) (ph scn fl : Int) (os : List Int) (brk : Int) (st : List Int) (b0 b1 : Int) (lg : List Ent) (lf : List OpV) (pd : List Ent) (wt : Bool) (dn : List AnsV) (k h i j v t f m : Int) (hp0 : 16 ≤ W ∧ W ≤ 4096) (hp1 : (xs.length : Int) = W) (hp2 : (ys.length : Int) = W) (hp3 : U64s xs) (hp4 : U64s ys) (hp5 : 0 ≤ f0 ∧ f0 ≤ 1) (hp6 : 0 ≤ f1 ∧ f1 ≤ f2) (hp7 : f2 = W) (hp8 : 0 ≤ sz ∧ sz ≤ 4096) (hp9 : U64s st) (hp10 : (st.length : Int) * 8 ≤ 140737488355000) (hp11 : (b0 = 0 ∧ b1 = 0) ∨ (0 ≤ b0 ∧ b0 ≤ b1 ∧ b1 ≤ f1)) (hp12 : Ents pd) (hp13 : (pd.length : Int) = 0) (hp14 : k = 4 ∨ k = 6 ∨ k = 7) (hp15 : -9223372036854775808 ≤ h ∧ h ≤ 9223372036854775807) (hp16 : -9223372036854775808 ≤ i ∧ i ≤ 9223372036854775807) (hp17 : 0 ≤ v ∧ v ≤ 18446744073709551615) : MCall Try.prog 37 [.p 0] [(0, .cells (bx W xs ys f0 f1 f2 t0 t1 t2 sz lm ts ph scn fl os brk st b0 b1 lg lf pd wt dn k h i j v t f m 0 0 false false) 65)] 1 1 (fun zx zm => (∃ X1 : List Int, ∃ Y1 : List Int, ∃ F1 : Int, ∃ st1 : List Int, ∃ p1 : Int, ∃ q1 : Int, ∃ pd1 : List Ent, ∃ e1 : Int, ∃ v1 : Int, ∃ yes1 : Bool, ∃ wt1 : Bool, (JF k ph h i W f1 f2 xs ys st X1 Y1 F1 st1 p1 q1 pd1 e1 v1 wt1) ∧ zx = .tup [] ∧ zm = [(0, .cells (bx W X1 Y1 f0 F1 f2 t0 t1 t2 sz lm ts ph scn fl os brk st1 p1 q1 lg lf pd1 wt dn k h i j v t f m e1 v1 yes1 wt1) 65)])) := by
 refine mcall_of (by kernel_rfl) (by kernel_rfl) (xcall_of TT_ok Try.func37 rfl (by decide) (Nat.le_of_ble_eq_true (by kernel_rfl)) ?_)
 refine xw_seq ?_
 refine reg ?_
 refine rki [] 1 0 [7, 0] [0] [] trivial ?_
 refine mcall2 (d := (some 8)) [0] (wfield W xs ys f0 f1 f2 t0 t1 t2 sz lm ts ph scn fl os brk st b0 b1 lg lf pd wt dn k h i j v t f m false ‹_› ‹_› ‹_› ‹_› ‹_› ‹_› (by omega) ‹_› ‹_›) ⟨by kernel_rfl, trivial⟩ ?_ ?_
 · rintro _ _ (⟨_, _, rfl, rfl⟩ | ⟨_, _, _, rfl, rfl⟩) <;> kernel_rfl
 ·
  rintro _ _ (⟨e1, h1, rfl, rfl⟩ | ⟨v1, h1, h2, rfl, rfl⟩)
  ·
   refine mst ⟨[(8, .tup [.u 0, .u 0, .f]), (7, .p 0), (0, .p 0)], [(0, .cells (bx W xs ys f0 f1 f2 t0 t1 t2 sz lm ts ph scn fl os brk st b0 b1 lg lf pd wt dn k h i j v t f m e1 0 false false) 65)], 1⟩ ?_
   have h2 : 0 ≤ (ix st h) ∧ (ix st h) ≤ 18446744073709551615 := U64s.ix ‹_› _
   refine rki [] 7 2 [4, 3, 2, 0] [0] [] trivial ?_
   refine en ?_
   refine an ?_
   refine xw_seq ?_
   refine rgi [] 2 [13, 3, 2, 0] [0] [] trivial ?_
   refine ct ?_
   refine xw_ret ?_
   refine an_ret ?_
   exact ⟨.tup [], by kernel_rfl, _, ⟨xs, ys, f1, st, b0, b1, pd, e1, 0, false, false, (by first | rfl | exact jf_rd | exact jf_wr | exact jf_al | omega | assumption), rfl, rfl⟩, rfl, le_cutm ⟨by kernel_rfl, trivial⟩⟩
  ·
   refine mst ⟨[(8, .tup [.u (ix st h), .u v1, .t]), (7, .p 0), (0, .p 0)], [(0, .cells (bx W xs ys f0 f1 f2 t0 t1 t2 sz lm ts ph scn fl os brk st b0 b1 lg lf pd wt dn k h i j v t f m 0 0 false false) 65)], 1⟩ ?_
   have h3 : 0 ≤ (ix st h) ∧ (ix st h) ≤ 18446744073709551615 := U64s.ix ‹_› _
   refine rki [] 7 2 [4, 3, 2, 0] [0] [] trivial ?_
   refine en ?_
   refine an ?_
   refine xw_seq ?_
   refine rgi [] 2 [13, 3, 2, 0] [0] [] trivial ?_
   refine cf ?_
   refine xw_skip ?_
   refine an ?_
   refine rgi [] 6 [5, 3, 2, 0] [0] [True, True] ⟨trivial, trivial, trivial⟩ ?_
   refine xw_seq ?_
   refine rg [] 5 ⟨[(23, .i k), (5, .u v), (3, .u v1), (2, .u (ix st h)), (0, .p 0)], [(0, .cells (bx W xs ys f0 f1 f2 t0 t1 t2 sz lm ts ph scn fl os brk st b0 b1 lg lf pd wt dn k h i j v t f m 0 0 false false) 65)], 1⟩ [True, True] ⟨trivial, trivial, trivial⟩ ?_
   refine xw_block ?_
   refine xw_seq ?_
   refine xw_block ?_
   refine xw_seq ?_
   refine xw_block ?_
   refine xw_seq ?_
   refine xw_block ?_
   refine xw_seq ?_
   refine xw_seq ?_
   refine rgi [(0, .bool (k == 6))] 2 [24, 23, 5, 3, 2, 0] [0] [sm (k == 6)] ⟨rfl, trivial⟩ ?_
   refine xw_cond (b := (k == 6)) (by kernel_rfl) (fun h4 => ?_) (fun h4 => ?_)
   ·
    replace h4 : k = 6 := eq_of_beq h4
    refine xw_exit ?_
    refine an_exit ?_
    refine an_exit ?_
    refine ib_same ?_
    refine an ?_
    refine xw_seq ?_
    refine reg ?_
    refine rki [] 2 0 [29, 28, 5, 3, 2, 0] [0] [] trivial ?_
    refine pcall (args := [.u v1, .u v]) (args' := [.u v1, .u v]) (d := (some 30)) (by kernel_rfl) (nadd v1 v ‹_› ‹_›) [(v1 : Int) = v1, (v : Int) = v] (by kernel_rfl) ⟨rfl, rfl, trivial⟩ (by kernel_rfl) ?_
    rintro _ (⟨r5, h6, rfl⟩)
    ·
     refine rki [] 1 3 [5, 3, 2, 0] [0] [] trivial ?_
     refine en ?_
     refine an ?_
     refine xw_exit ?_
     refine ib_exit (by kernel_rfl) ?_
     refine an_exit ?_
     refine ib_exit (by kernel_rfl) ?_
     refine an_exit ?_
     refine ib_same ?_
     refine an ?_
     refine reg ?_
     refine rk [] 3 0 ⟨[(36, .u r5), (35, .u (ix st h)), (34, .p 0)], [(0, .cells (bx W xs ys f0 f1 f2 t0 t1 t2 sz lm ts ph scn fl os brk st b0 b1 lg lf pd wt dn k h i j v t f m 0 0 false false) 65)], 1⟩ [] trivial ?_
     refine mcall2 (d := (some 37)) [0] (wset W xs ys f0 f1 f2 t0 t1 t2 sz lm ts ph scn fl os brk st b0 b1 lg lf pd wt dn k h i j v t f m (ix st h) r5 ‹_› ‹_› ‹_› ‹_› ‹_› ‹_› ‹_› ‹_›) ⟨by kernel_rfl, trivial⟩ ?_ ?_
     · rintro _ _ (⟨_, _, _, _, _, _, _, _, rfl, rfl⟩) <;> kernel_rfl
     ·
      rintro _ _ (⟨X1, Y1, pd1, h10, h11, h12, h13, h14, rfl, rfl⟩)
      refine mst ⟨[(37, .tup []), (36, .u r5), (35, .u (ix st h)), (34, .p 0)], [(0, .cells (bx W X1 Y1 f0 f1 f2 t0 t1 t2 sz lm ts ph scn fl os brk st b0 b1 lg lf pd1 wt dn k h i j v t f m 0 0 false false) 65)], 1⟩ ?_
      refine en ?_
      exact ⟨.tup [], by kernel_rfl, _, ⟨X1, Y1, f1, st, b0, b1, pd1, 0, 0, false, false, (by first | rfl | exact jf_rd | exact jf_wr | exact jf_al | omega | assumption), rfl, rfl⟩, rfl, le_cutm ⟨by kernel_rfl, trivial⟩⟩
   ·
    replace h4 : k ≠ 6 := ne_of_beq_false h4
    refine xw_skip ?_
    refine an ?_
    refine rgi [(0, .bool (k == 7))] 2 [26, 5, 3, 2, 0] [0] [sm (k == 7)] ⟨rfl, trivial⟩ ?_
    refine xw_cond (b := (k == 7)) (by kernel_rfl) (fun h5 => ?_) (fun h5 => ?_)
    ·
     replace h5 : k = 7 := eq_of_beq h5
     refine xw_exit ?_
     refine an_exit ?_
     refine ib_exit (by kernel_rfl) ?_
     refine an_exit ?_
     refine ib_same ?_
     refine an ?_
     refine reg ?_
     refine rki [] 2 0 [32, 31, 5, 2, 0] [0] [] trivial ?_
     refine pcall (args := [.u v1, .u v]) (args' := [.u v1, .u v]) (d := (some 33)) (by kernel_rfl) (nmul v1 v ‹_› ‹_›) [(v1 : Int) = v1, (v : Int) = v] (by kernel_rfl) ⟨rfl, rfl, trivial⟩ (by kernel_rfl) ?_
     rintro _ (⟨r6, h7, rfl⟩)
     ·
      refine rk [] 1 3 ⟨[(5, .u r6), (2, .u (ix st h)), (0, .p 0)], [(0, .cells (bx W xs ys f0 f1 f2 t0 t1 t2 sz lm ts ph scn fl os brk st b0 b1 lg lf pd wt dn k h i j v t f m 0 0 false false) 65)], 1⟩ [] trivial ?_
      refine en ?_
      refine ib ?_
      refine an ?_
      refine xw_exit ?_
      refine ib_same ?_
      refine an ?_
      refine reg ?_
      refine rki [] 3 0 [36, 35, 34] [0] [] trivial ?_
      refine mcall2 (d := (some 37)) [0] (wset W xs ys f0 f1 f2 t0 t1 t2 sz lm ts ph scn fl os brk st b0 b1 lg lf pd wt dn k h i j v t f m (ix st h) r6 ‹_› ‹_› ‹_› ‹_› ‹_› ‹_› ‹_› ‹_›) ⟨by kernel_rfl, trivial⟩ ?_ ?_
      · rintro _ _ (⟨_, _, _, _, _, _, _, _, rfl, rfl⟩) <;> kernel_rfl
      ·
       rintro _ _ (⟨X1, Y1, pd1, h11, h12, h13, h14, h15, rfl, rfl⟩)
       refine mst ⟨[(37, .tup []), (36, .u r6), (35, .u (ix st h)), (34, .p 0)], [(0, .cells (bx W X1 Y1 f0 f1 f2 t0 t1 t2 sz lm ts ph scn fl os brk st b0 b1 lg lf pd1 wt dn k h i j v t f m 0 0 false false) 65)], 1⟩ ?_
       refine en ?_
       exact ⟨.tup [], by kernel_rfl, _, ⟨X1, Y1, f1, st, b0, b1, pd1, 0, 0, false, false, (by first | rfl | exact jf_rd | exact jf_wr | exact jf_al | omega | assumption), rfl, rfl⟩, rfl, le_cutm ⟨by kernel_rfl, trivial⟩⟩
    ·
     replace h5 : k ≠ 7 := ne_of_beq_false h5
     refine xw_skip ?_
     refine an ?_
     refine xw_exit ?_
     refine ib_exit (by kernel_rfl) ?_
     refine an_exit ?_
     refine ib_exit (by kernel_rfl) ?_
     refine an_exit ?_
     refine ib_same ?_
     refine an ?_
     refine xw_exit ?_
     refine ib_same ?_
     refine an ?_
     refine reg ?_
     refine rki [] 3 0 [36, 35, 34] [0] [] trivial ?_
     refine mcall2 (d := (some 37)) [0] (wset W xs ys f0 f1 f2 t0 t1 t2 sz lm ts ph scn fl os brk st b0 b1 lg lf pd wt dn k h i j v t f m (ix st h) v ‹_› ‹_› ‹_› ‹_› ‹_› ‹_› ‹_› ‹_›) ⟨by kernel_rfl, trivial⟩ ?_ ?_
     · rintro _ _ (⟨_, _, _, _, _, _, _, _, rfl, rfl⟩) <;> kernel_rfl
     ·
      rintro _ _ (⟨X1, Y1, pd1, h9, h10, h11, h12, h13, rfl, rfl⟩)
      refine mst ⟨[(37, .tup []), (36, .u v), (35, .u (ix st h)), (34, .p 0)], [(0, .cells (bx W X1 Y1 f0 f1 f2 t0 t1 t2 sz lm ts ph scn fl os brk st b0 b1 lg lf pd1 wt dn k h i j v t f m 0 0 false false) 65)], 1⟩ ?_
      refine en ?_
      exact ⟨.tup [], by kernel_rfl, _, ⟨X1, Y1, f1, st, b0, b1, pd1, 0, 0, false, false, (by first | rfl | exact jf_rd | exact jf_wr | exact jf_al | omega | assumption), rfl, rfl⟩, rfl, le_cutm ⟨by kernel_rfl, trivial⟩⟩

end Go.Proofs.Ytjchmajamlehmaa.X
