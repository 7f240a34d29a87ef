/- Words moved from one place to another, and a twin made. No program in sight. -/
import Derived.Test.YtlapjlbmhaalbaaXq2
namespace Go.Proofs.Ytlapjlbmhaalbaa.X
open Go Go.RowKit
set_option linter.unusedVariables false

/-- In a drawn region that writes: a number told otherwise. -/
theorem sseti {P : Program} {N : Nat} {ops : Array Oper} {sg : List (Mem × Nat)} {ws : List Nat} {bf : List (Nat × List Nat)} {i : Nat} {K : Fr → Prop} {fr : Fr} (d : Nat) {k : IntKind} {x y : Int} (hd : fnd fr d = some (.int k x)) (e : x = y) (h : SO P N ops sg ws bf i K ((d, .int k y) :: fr)) : SO P N ops sg ws bf i K fr := by
  subst e
  obtain ⟨ss, fr2, h1, h2, h3⟩ := h
  have hsame : ∀ t, fnd ((d, .int k x) :: fr) t = fnd fr t := fun t => by
    rw [fnd_cons]
    split
    · rename_i e; subst e; exact hd.symm
    · rfl
  exact ⟨ss, fr2, h1.congr hsame, fun t s h => by rw [← lexFr_congr _ ss hsame t]; exact h2 t s h, h3⟩
theorem rtx_00 (xs : List Int) (s : Int) : rtx xs s 0 0 = xs := by unfold rtx; rw [if_neg (by omega)]
theorem rty_00 (xs : List Int) (s : Int) : rty xs s 0 0 = xs := by unfold rty; rw [if_neg (by omega)]
theorem rt_same (xs ys : List Int) (s p q : Int) : p < q ∨ (rtx xs s p q = xs ∧ rty ys s p q = ys) := by
  by_cases h : p < q
  · exact .inl h
  · exact .inr ⟨(rtx_0 h).symm, (rty_0 h).symm⟩
/-- A row with other words from a place on. -/
def spl (xs : List Int) (p : Int) (zs : List Int) : List Int := xs.take p.toNat ++ zs ++ xs.drop (p.toNat + zs.length)
theorem len_spl {xs zs : List Int} {p : Int} (h : p.toNat + zs.length ≤ xs.length) : (spl xs p zs).length = xs.length := by simp [spl]; omega
theorem U64s.spl {xs zs : List Int} (h : U64s xs) (h' : U64s zs) (p : Int) : U64s (spl xs p zs) := ((h.take _).append h').append (h.drop _)
theorem ix_spl_in {xs zs : List Int} {p i : Int} (h0 : 0 ≤ p) (h : p.toNat + zs.length ≤ xs.length) (h1 : p ≤ i) (h2 : i < p + (zs.length : Int)) : ix (spl xs p zs) i = ix zs (i - p) := by
  have hl : (xs.take p.toNat).length = p.toNat := by simp; omega
  unfold spl
  rw [List.append_assoc, ix_append2 (by rw [hl]; omega), hl, ix_append1 (by omega) (by omega)]
  congr 1; omega
theorem ix_spl_out {xs zs : List Int} {p i : Int} (h0 : 0 ≤ p) (h : p.toNat + zs.length ≤ xs.length) (hi : 0 ≤ i) (h1 : i < p ∨ p + (zs.length : Int) ≤ i) : ix (spl xs p zs) i = ix xs i := by
  have hl : (xs.take p.toNat).length = p.toNat := by simp; omega
  unfold spl
  by_cases h2 : i < p
  · rw [List.append_assoc, ix_append1 hi (by rw [hl]; omega)]
    unfold ix
    rw [List.getD_eq_getElem?_getD, List.getD_eq_getElem?_getD, List.getElem?_take_of_lt (by omega)]
  · have hl2 : (xs.take p.toNat ++ zs).length = p.toNat + zs.length := by rw [List.length_append, hl]
    rw [ix_append2 (by rw [hl2]; omega), hl2]
    unfold ix
    rw [List.getD_eq_getElem?_getD, List.getD_eq_getElem?_getD, List.getElem?_drop]
    congr 2; omega
/-- So many words of a row. -/
def seg (xs : List Int) (p n : Int) : List Int := (xs.take (Int.toNat (p + n))).drop (Int.toNat p)
theorem len_seg {xs : List Int} {p n : Int} (h0 : 0 ≤ p) (hn : 0 ≤ n) (h : p + n ≤ (xs.length : Int)) : ((seg xs p n).length : Int) = n := by simp [seg]; omega
theorem U64s.seg {xs : List Int} (h : U64s xs) (p n : Int) : U64s (seg xs p n) := (h.take _).drop _
theorem ix_seg {xs : List Int} {p n i : Int} (h0 : 0 ≤ p) (hi : 0 ≤ i) (hn : i < n) : ix (seg xs p n) i = ix xs (p + i) := by
  unfold seg ix
  rw [List.getD_eq_getElem?_getD, List.getD_eq_getElem?_getD, List.getElem?_drop, List.getElem?_take_of_lt (by omega)]
  congr 2; omega

/-- The spaces behind words moved. -/
def mvx (xs ys : List Int) (a c n : Int) : List Int := if c / 4294967296 = 1 then spl xs (c % 4294967296) (seg (if a / 4294967296 = 1 then xs else ys) (a % 4294967296) n) else xs
def mvy (xs ys : List Int) (a c n : Int) : List Int := if c / 4294967296 = 1 then ys else spl ys (c % 4294967296) (seg (if a / 4294967296 = 1 then xs else ys) (a % 4294967296) n)
section
variable {W : Int} {xs ys : List Int} {a c n : Int}
theorem mvx_11 (h : c / 4294967296 = 1) (k : a / 4294967296 = 1) : mvx xs ys a c n = spl xs (c % 4294967296) (seg xs (a % 4294967296) n) := by unfold mvx; rw [if_pos h, if_pos k]
theorem mvx_12 (h : c / 4294967296 = 1) (k : a / 4294967296 ≠ 1) : mvx xs ys a c n = spl xs (c % 4294967296) (seg ys (a % 4294967296) n) := by unfold mvx; rw [if_pos h, if_neg k]
theorem mvx_2 (h : c / 4294967296 ≠ 1) : mvx xs ys a c n = xs := by unfold mvx; rw [if_neg h]
theorem mvy_1 (h : c / 4294967296 = 1) : mvy xs ys a c n = ys := by unfold mvy; rw [if_pos h]
theorem mvy_21 (h : c / 4294967296 ≠ 1) (k : a / 4294967296 = 1) : mvy xs ys a c n = spl ys (c % 4294967296) (seg xs (a % 4294967296) n) := by unfold mvy; rw [if_neg h, if_pos k]
theorem mvy_22 (h : c / 4294967296 ≠ 1) (k : a / 4294967296 ≠ 1) : mvy xs ys a c n = spl ys (c % 4294967296) (seg ys (a % 4294967296) n) := by unfold mvy; rw [if_neg h, if_neg k]
end
theorem mv_ok (W : Int) (xs ys : List Int) (a c n : Int) (h1 : (xs.length : Int) = W) (h2 : (ys.length : Int) = W) (h3 : U64s xs) (h4 : U64s ys) (hn : 0 ≤ n) (ha : a % 4294967296 + n ≤ W) (hc : c % 4294967296 + n ≤ W) :
    ((mvx xs ys a c n).length : Int) = W ∧ ((mvy xs ys a c n).length : Int) = W ∧ U64s (mvx xs ys a c n) ∧ U64s (mvy xs ys a c n) := by
  have hs : U64s (seg (if a / 4294967296 = 1 then xs else ys) (a % 4294967296) n) := by split; exact h3.seg _ _; exact h4.seg _ _
  have hl : ((seg (if a / 4294967296 = 1 then xs else ys) (a % 4294967296) n).length : Int) = n := by split <;> exact len_seg (by omega) hn (by omega)
  unfold mvx mvy
  by_cases h : c / 4294967296 = 1
  · rw [if_pos h, if_pos h]; exact ⟨by rw [len_spl (by omega)]; exact h1, h2, h3.spl hs _, h4⟩
  · rw [if_neg h, if_neg h]; exact ⟨h1, by rw [len_spl (by omega)]; exact h2, h3, h4.spl hs _⟩
theorem ldw_mv {W : Int} {xs ys : List Int} {a c n d : Int} (h1 : (xs.length : Int) = W) (h2 : (ys.length : Int) = W) (hn : 0 ≤ n) (ha : a % 4294967296 + n ≤ W) (hc : 1 ≤ c / 4294967296 ∧ c / 4294967296 ≤ 2 ∧ c % 4294967296 + n ≤ W) (hW : W ≤ 4096) (hd : 1 ≤ d / 4294967296 ∧ d / 4294967296 ≤ 2) (ho : d < c ∨ c + n ≤ d) :
    ldw (mvx xs ys a c n) (mvy xs ys a c n) d = ldw xs ys d := by
  have hl : ((seg (if a / 4294967296 = 1 then xs else ys) (a % 4294967296) n).length : Int) = n := by split <;> exact len_seg (by omega) hn (by omega)
  unfold mvx mvy
  by_cases h : c / 4294967296 = 1
  · rw [if_pos h, if_pos h]
    by_cases k : d / 4294967296 = 1
    · rw [ldw_1 k, ldw_1 k, ix_spl_out (by omega) (by omega) (by omega) (by omega)]
    · rw [ldw_2 k, ldw_2 k]
  · rw [if_neg h, if_neg h]
    by_cases k : d / 4294967296 = 1
    · rw [ldw_1 k, ldw_1 k]
    · rw [ldw_2 k, ldw_2 k, ix_spl_out (by omega) (by omega) (by omega) (by omega)]
theorem spliceL {xs zs : List Int} {p : Int} (h0 : 0 ≤ p) (h : p + (zs.length : Int) ≤ (xs.length : Int)) : ((List.map (SV.int .u64) xs).take p.toNat ++ (List.map (SV.int .u64) zs).take ((List.map (SV.int .u64) xs).length - p.toNat) ++ (List.map (SV.int .u64) xs).drop (p.toNat + ((List.map (SV.int .u64) zs).take ((List.map (SV.int .u64) xs).length - p.toNat)).length)) = List.map (SV.int .u64) (spl xs p zs) := by
  have e : (List.map (SV.int .u64) zs).take ((List.map (SV.int .u64) xs).length - p.toNat) = List.map (SV.int .u64) zs := List.take_of_length_le (by simp; omega)
  rw [e]; simp [spl]
theorem cut_map {k : IntKind} {xs : List Int} {n m : Nat} : ((List.map (SV.int k) xs).take n).drop m = List.map (SV.int k) ((xs.take n).drop m) := by simp
/-- The spaces behind a twin made. -/
def tX (xs ys : List Int) (a c n : Int) : List Int := stx (stx (mvx xs ys a c n) (c + 1) 0) (a + 1) c
def tY (xs ys : List Int) (a c n : Int) : List Int := sty (sty (mvy xs ys a c n) (c + 1) 0) (a + 1) c
section
variable {W : Int} {xs ys : List Int} {a c n d : Int}
theorem tw_pre (h1 : (xs.length : Int) = W) (h2 : (ys.length : Int) = W) (hn : 2 ≤ n) (ha : a % 4294967296 + n ≤ W) (hc : 1 ≤ c / 4294967296 ∧ c / 4294967296 ≤ 2 ∧ c % 4294967296 + n ≤ W) (hW : W ≤ 4096) (hd : 1 ≤ d / 4294967296 ∧ d / 4294967296 ≤ 2) (ho : d < c ∨ c + n ≤ d) :
    ldw (stx (mvx xs ys a c n) (c + 1) 0) (sty (mvy xs ys a c n) (c + 1) 0) d = ldw xs ys d :=
  (ldw_other 0 (by omega) hd (by omega)).trans (ldw_mv h1 h2 (by omega) ha hc hW hd ho)
theorem tw_d (h1 : (xs.length : Int) = W) (h2 : (ys.length : Int) = W) (hn : 2 ≤ n) (ha : 1 ≤ a / 4294967296 ∧ a / 4294967296 ≤ 2 ∧ a % 4294967296 + n ≤ W) (hc : 1 ≤ c / 4294967296 ∧ c / 4294967296 ≤ 2 ∧ c % 4294967296 + n ≤ W) (hW : W ≤ 4096) (hd : 1 ≤ d / 4294967296 ∧ d / 4294967296 ≤ 2) :
    ldw (tX xs ys a c n) (tY xs ys a c n) d = ldw xs ys d ∨ d = a + 1 ∨ (c ≤ d ∧ d < c + n) := by
  by_cases e : d = a + 1
  · exact .inr (.inl e)
  · by_cases k : c ≤ d ∧ d < c + n
    · exact .inr (.inr k)
    · exact .inl ((ldw_other c (by omega) hd e).trans (tw_pre h1 h2 hn ha.2.2 hc hW hd (by omega)))
end
theorem tw_ok (W : Int) (xs ys : List Int) (a c n : Int) (h1 : (xs.length : Int) = W) (h2 : (ys.length : Int) = W) (h3 : U64s xs) (h4 : U64s ys) (hn : 0 ≤ n) (ha : a % 4294967296 + n ≤ W) (hc : c % 4294967296 + n ≤ W) (hc2 : 0 ≤ c ∧ c ≤ 18446744073709551615) :
    ((tX xs ys a c n).length : Int) = W ∧ ((tY xs ys a c n).length : Int) = W ∧ U64s (tX xs ys a c n) ∧ U64s (tY xs ys a c n) := by
  obtain ⟨g1, g2, g3, g4⟩ := mv_ok W xs ys a c n h1 h2 h3 h4 hn ha hc
  unfold tX tY
  exact ⟨by rw [len_stx, len_stx]; exact g1, by rw [len_sty, len_sty]; exact g2, (g3.stx _ (by omega)).stx _ hc2, (g4.sty _ (by omega)).sty _ hc2⟩
end Go.Proofs.Ytlapjlbmhaalbaa.X
