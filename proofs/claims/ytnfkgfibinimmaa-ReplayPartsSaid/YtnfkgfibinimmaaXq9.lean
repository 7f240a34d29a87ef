/- Words moved one by one. No program in sight. -/
import Derived.Test.YtnfkgfibinimmaaXq8
namespace Go.Proofs.Ytnfkgfibinimmaa.X
open Go Go.RowKit

theorem ext_ix {xs ys : List Int} (hl : xs.length = ys.length) (h : ∀ i : Int, 0 ≤ i → i < (xs.length : Int) → ix xs i = ix ys i) : xs = ys := by
  refine List.ext_getElem hl fun n h1 h2 => ?_
  have := h n (by omega) (by omega)
  unfold ix at this
  simpa [h1, h2] using this
theorem spl_0 {xs zs : List Int} {p q : Int} : spl xs p (seg zs q 0) = xs := by
  have : seg zs q 0 = [] := by unfold seg; rw [Int.add_zero]; simp
  rw [this]; simp [spl]
theorem spl_next {xs zs : List Int} {p q i : Int} (hp : 0 ≤ p) (hq : 0 ≤ q) (hi : 0 ≤ i) (h1 : p + i + 1 ≤ (xs.length : Int)) (h2 : q + i + 1 ≤ (zs.length : Int)) : st (spl xs p (seg zs q i)) (p + i) (ix zs (q + i)) = spl xs p (seg zs q (i + 1)) := by
  have l1 : ((seg zs q i).length : Int) = i := len_seg hq hi (by omega)
  have l2 : ((seg zs q (i + 1)).length : Int) = i + 1 := len_seg hq (by omega) (by omega)
  have e1 : (spl xs p (seg zs q i)).length = xs.length := len_spl (by omega)
  have e2 : (spl xs p (seg zs q (i + 1))).length = xs.length := len_spl (by omega)
  refine ext_ix (by rw [len_st, e1, e2]) fun j h0 hj => ?_
  rw [len_st, e1] at hj
  by_cases hji : j = p + i
  · subst hji
    rw [ix_same _ (by omega) (by omega) rfl, ix_spl_in hp (by omega) (by omega) (by omega), ix_seg hq (by omega) (by omega)]
    congr 1; omega
  · rw [ix_other _ (by omega) h0 hji]
    by_cases hin : p ≤ j ∧ j < p + i
    · rw [ix_spl_in hp (by omega) (by omega) (by omega), ix_spl_in hp (by omega) (by omega) (by omega), ix_seg hq (by omega) (by omega), ix_seg hq (by omega) (by omega)]
    · rw [ix_spl_out hp (by omega) h0 (by omega), ix_spl_out hp (by omega) h0 (by omega)]
section
variable {W : Int} {xs ys : List Int} {a c i n d v : Int}
theorem mvx_0 (h : n = 0) : xs = mvx xs ys a c n := by subst h; unfold mvx; split <;> simp only [spl_0]
theorem mvy_0 (h : n = 0) : ys = mvy xs ys a c n := by subst h; unfold mvy; split <;> simp only [spl_0]
theorem ldw_ix (h1 : 1 ≤ a / 4294967296 ∧ a / 4294967296 ≤ 2) (hi : 0 ≤ i) (h : a % 4294967296 + i < 4294967296) : ldw xs ys (a + i) = ix (if a / 4294967296 = 1 then xs else ys) (a % 4294967296 + i) := by
  by_cases k : a / 4294967296 = 1
  · rw [if_pos k, ldw_1 (by omega)]; congr 1; omega
  · rw [if_neg k, ldw_2 (by omega)]; congr 1; omega
theorem mvx_next (h1 : (xs.length : Int) = W) (h2 : (ys.length : Int) = W) (ha : 1 ≤ a / 4294967296 ∧ a / 4294967296 ≤ 2 ∧ a % 4294967296 + i + 1 ≤ W) (hc : 1 ≤ c / 4294967296 ∧ c / 4294967296 ≤ 2 ∧ c % 4294967296 + i + 1 ≤ W) (hW : W ≤ 4096) (hi : 0 ≤ i) (hd : d = c + i) (hv : v = ldw xs ys (a + i)) (hn : n = i + 1) :
    stx (mvx xs ys a c i) d v = mvx xs ys a c n := by
  subst hd hv hn
  unfold mvx
  by_cases k : c / 4294967296 = 1
  · rw [if_pos k, if_pos k, stx_1 (by omega), show (c + i) % 4294967296 = c % 4294967296 + i by omega, ldw_ix ⟨ha.1, ha.2.1⟩ hi (by omega)]
    exact spl_next (by omega) (by omega) hi (by omega) (by split <;> omega)
  · rw [if_neg k, if_neg k, stx_2 (by omega)]
theorem mvy_next (h1 : (xs.length : Int) = W) (h2 : (ys.length : Int) = W) (ha : 1 ≤ a / 4294967296 ∧ a / 4294967296 ≤ 2 ∧ a % 4294967296 + i + 1 ≤ W) (hc : 1 ≤ c / 4294967296 ∧ c / 4294967296 ≤ 2 ∧ c % 4294967296 + i + 1 ≤ W) (hW : W ≤ 4096) (hi : 0 ≤ i) (hd : d = c + i) (hv : v = ldw xs ys (a + i)) (hn : n = i + 1) :
    sty (mvy xs ys a c i) d v = mvy xs ys a c n := by
  subst hd hv hn
  unfold mvy
  by_cases k : c / 4294967296 = 1
  · rw [if_pos k, if_pos k, sty_1 (by omega)]
  · rw [if_neg k, if_neg k, sty_2 (by omega), show (c + i) % 4294967296 = c % 4294967296 + i by omega, ldw_ix ⟨ha.1, ha.2.1⟩ hi (by omega)]
    exact spl_next (by omega) (by omega) hi (by omega) (by split <;> omega)
theorem mvx_eq (h : i = n) : mvx xs ys a c i = mvx xs ys a c n := by rw [h]
theorem mvy_eq (h : i = n) : mvy xs ys a c i = mvy xs ys a c n := by rw [h]
end
end Go.Proofs.Ytnfkgfibinimmaa.X
