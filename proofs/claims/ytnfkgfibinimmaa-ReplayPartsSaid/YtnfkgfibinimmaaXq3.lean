/- Rooms: a piece that is retired. No program in sight. -/
import Derived.Test.YtnfkgfibinimmaaXq2
namespace Go.Proofs.Ytnfkgfibinimmaa.X
open Go Go.RowKit
/-- What is wrong depends on the head's word alone. -/
theorem oErr_cong {W : Int} {xs ys us vs : List Int} {a : Int} (h : ldw xs ys a = ldw us vs a) : oErr W xs ys a = oErr W us vs a := by unfold oErr; rw [h]
theorem set_other {W : Int} {xs ys : List Int} {a i v k L : Int} (ha : 1 ≤ a / 4294967296 ∧ a / 4294967296 ≤ 2) (hf : a % 4294967296 + L + 2 ≤ W) (hW : W ≤ 4096) (hi : 0 ≤ i ∧ i < L) : k = i ∨ ¬ (0 ≤ k ∧ k < L) ∨ ldw (stx xs (a + 2 + i) v) (sty ys (a + 2 + i) v) (a + 2 + k) = ldw xs ys (a + 2 + k) := by
  by_cases hk : k = i
  · exact .inl hk
  · by_cases hr : 0 ≤ k ∧ k < L
    · exact .inr (.inr (ldw_other v (by omega) (by omega) (by omega)))
    · exact .inr (.inl hr)
/-- The spaces behind retiring a piece. -/
def rtx (xs : List Int) (s p q : Int) : List Int := if p < q then px xs ((s + 1) * 4294967296 + p) 255 (q - p - 1) 0 else xs
def rty (ys : List Int) (s p q : Int) : List Int := if p < q then py ys ((s + 1) * 4294967296 + p) 255 (q - p - 1) 0 else ys
theorem rtx_p {xs : List Int} {s p q : Int} (h : p < q) : px xs ((s + 1) * 4294967296 + p) 255 (q - p - 1) 0 = rtx xs s p q := by unfold rtx; rw [if_pos h]
theorem rty_p {xs : List Int} {s p q : Int} (h : p < q) : py xs ((s + 1) * 4294967296 + p) 255 (q - p - 1) 0 = rty xs s p q := by unfold rty; rw [if_pos h]
theorem rtx_0 {xs : List Int} {s p q : Int} (h : ¬ p < q) : xs = rtx xs s p q := by unfold rtx; rw [if_neg h]
theorem rty_0 {xs : List Int} {s p q : Int} (h : ¬ p < q) : xs = rty xs s p q := by unfold rty; rw [if_neg h]
theorem rt_ok (W : Int) (xs ys : List Int) (s p q : Int) (h1 : (xs.length : Int) = W) (h2 : (ys.length : Int) = W) (h3 : U64s xs) (h4 : U64s ys) (hW : 16 ≤ W ∧ W ≤ 4096) (hp : (s = 0 ∨ s = 1) ∧ 0 ≤ p ∧ p ≤ q ∧ q ≤ W) :
    ((rtx xs s p q).length : Int) = W ∧ ((rty ys s p q).length : Int) = W ∧ U64s (rtx xs s p q) ∧ U64s (rty ys s p q) := by
  unfold rtx rty
  by_cases h : p < q
  · rw [if_pos h, if_pos h]
    obtain ⟨g1, g2, g3, g4, _⟩ := fill_ok W xs ys ((s + 1) * 4294967296 + p) (q - p) h1 h2 h3 h4 (by omega) (by omega) (by omega) (by omega)
    exact ⟨g1, g2, g3, g4⟩
  · rw [if_neg h, if_neg h]; exact ⟨h1, h2, h3, h4⟩
end Go.Proofs.Ytnfkgfibinimmaa.X
