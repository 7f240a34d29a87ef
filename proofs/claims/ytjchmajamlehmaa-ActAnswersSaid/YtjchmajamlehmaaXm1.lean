/- Two spaces of words as two rows: a word, a word stored, words cleared; and what is read behind them. No program in sight. -/
import Derived.Test.YtjchmajamlehmaaXz
namespace Go.Proofs.Ytjchmajamlehmaa.X
open Go Go.RowKit

/-- The word at an address (space 1 or 2 in its upper half). -/
def ldw (xs ys : List Int) (a : Int) : Int := if a / 4294967296 = 1 then ix xs (a % 4294967296) else ix ys (a % 4294967296)
/-- The first space behind a store. -/
def stx (xs : List Int) (a v : Int) : List Int := if a / 4294967296 = 1 then st xs (a % 4294967296) v else xs
/-- The second one. -/
def sty (ys : List Int) (a v : Int) : List Int := if a / 4294967296 = 1 then ys else st ys (a % 4294967296) v

theorem ldw_1 {xs ys : List Int} {a : Int} (h : a / 4294967296 = 1) : ldw xs ys a = ix xs (a % 4294967296) := by unfold ldw; rw [if_pos h]
theorem ldw_2 {xs ys : List Int} {a : Int} (h : a / 4294967296 ≠ 1) : ldw xs ys a = ix ys (a % 4294967296) := by unfold ldw; rw [if_neg h]
theorem stx_1 {xs : List Int} {a v : Int} (h : a / 4294967296 = 1) : stx xs a v = st xs (a % 4294967296) v := by unfold stx; rw [if_pos h]
theorem stx_2 {xs : List Int} {a v : Int} (h : a / 4294967296 ≠ 1) : stx xs a v = xs := by unfold stx; rw [if_neg h]
theorem sty_1 {xs : List Int} {a v : Int} (h : a / 4294967296 = 1) : sty xs a v = xs := by unfold sty; rw [if_pos h]
theorem sty_2 {xs : List Int} {a v : Int} (h : a / 4294967296 ≠ 1) : sty xs a v = st xs (a % 4294967296) v := by unfold sty; rw [if_neg h]
theorem len_stx (xs : List Int) (a v : Int) : (stx xs a v).length = xs.length := by unfold stx; split <;> simp [st]
theorem len_sty (xs : List Int) (a v : Int) : (sty xs a v).length = xs.length := by unfold sty; split <;> simp [st]
theorem U64s.stx {xs : List Int} (h : U64s xs) (a : Int) {v : Int} (hv : 0 ≤ v ∧ v ≤ 18446744073709551615) : U64s (stx xs a v) := by unfold X.stx; split; exact h.st _ hv; exact h
theorem U64s.sty {xs : List Int} (h : U64s xs) (a : Int) {v : Int} (hv : 0 ≤ v ∧ v ≤ 18446744073709551615) : U64s (sty xs a v) := by unfold X.sty; split; exact h; exact h.st _ hv
theorem U64s.ldw {xs ys : List Int} (h : U64s xs) (k : U64s ys) (a : Int) : 0 ≤ ldw xs ys a ∧ ldw xs ys a ≤ 18446744073709551615 := by unfold X.ldw; split; exact h.ix _; exact k.ix _

/-- Is an address there, in spaces of so many words? -/
theorem ldw_same {xs ys : List Int} {a b : Int} (v : Int) (h1 : 1 ≤ a / 4294967296 ∧ a / 4294967296 ≤ 2) (hx : a % 4294967296 < (xs.length : Int)) (hy : a % 4294967296 < (ys.length : Int)) (e : b = a) : ldw (stx xs a v) (sty ys a v) b = v := by
  subst e
  by_cases h : b / 4294967296 = 1
  · rw [ldw_1 h, stx_1 h, ix_same v (by omega) hx rfl]
  · rw [ldw_2 h, sty_2 h, ix_same v (by omega) hy rfl]
theorem ldw_other {xs ys : List Int} {a b : Int} (v : Int) (ha : 1 ≤ a / 4294967296 ∧ a / 4294967296 ≤ 2) (hb : 1 ≤ b / 4294967296 ∧ b / 4294967296 ≤ 2) (e : b ≠ a) : ldw (stx xs a v) (sty ys a v) b = ldw xs ys b := by
  by_cases h : a / 4294967296 = 1
  · rw [stx_1 h, sty_1 h]
    by_cases k : b / 4294967296 = 1
    · rw [ldw_1 k, ldw_1 k, ix_other v (by omega) (by omega) (by omega)]
    · rw [ldw_2 k, ldw_2 k]
  · rw [stx_2 h, sty_2 h]
    by_cases k : b / 4294967296 = 1
    · rw [ldw_1 k, ldw_1 k]
    · rw [ldw_2 k, ldw_2 k, ix_other v (by omega) (by omega) (by omega)]

/-- The first space behind clearing k words behind an address. -/
def zx (xs : List Int) (a : Int) : Nat → List Int
  | 0 => xs
  | k + 1 => stx (zx xs a k) (a + ((k : Int) + 1)) 0
def zy (ys : List Int) (a : Int) : Nat → List Int
  | 0 => ys
  | k + 1 => sty (zy ys a k) (a + ((k : Int) + 1)) 0
theorem len_zx (xs : List Int) (a : Int) : ∀ k, (zx xs a k).length = xs.length
  | 0 => rfl
  | k + 1 => by simp only [zx, len_stx]; exact len_zx xs a k
theorem len_zy (xs : List Int) (a : Int) : ∀ k, (zy xs a k).length = xs.length
  | 0 => rfl
  | k + 1 => by simp only [zy, len_sty]; exact len_zy xs a k
theorem U64s.zx {xs : List Int} (h : U64s xs) (a : Int) : ∀ k, U64s (zx xs a k)
  | 0 => h
  | k + 1 => (U64s.zx h a k).stx _ (by omega)
theorem U64s.zy {xs : List Int} (h : U64s xs) (a : Int) : ∀ k, U64s (zy xs a k)
  | 0 => h
  | k + 1 => (U64s.zy h a k).sty _ (by omega)
theorem ldw_zxo {xs ys : List Int} {a b : Int} (hb : 1 ≤ b / 4294967296 ∧ b / 4294967296 ≤ 2) : ∀ {k : Nat}, 1 ≤ a / 4294967296 ∧ (a + k) / 4294967296 ≤ 2 → (b ≤ a ∨ a + k < b) → ldw (zx xs a k) (zy ys a k) b = ldw xs ys b
  | 0, _, _ => rfl
  | k + 1, ha, h => by
    simp only [zx, zy]
    rw [ldw_other 0 (by omega) hb (by omega)]
    exact ldw_zxo hb (by omega) (by omega)
theorem ldw_zxi {xs ys : List Int} {a b : Int} {W : Int} (hx : (xs.length : Int) = W) (hy : (ys.length : Int) = W) : ∀ {k : Nat}, 1 ≤ a / 4294967296 → a / 4294967296 ≤ 2 → a % 4294967296 + k < W → W ≤ 4294967296 → a < b → b ≤ a + k → ldw (zx xs a k) (zy ys a k) b = 0
  | 0, _, _, _, _, _, _ => by omega
  | k + 1, h1, h2, h3, h4, h5, h6 => by
    simp only [zx, zy]
    by_cases e : b = a + ((k : Int) + 1)
    · rw [ldw_same 0 (by omega) (by rw [len_zx]; omega) (by rw [len_zy]; omega) e]
    · rw [ldw_other 0 (by omega) (by omega) e]
      exact ldw_zxi hx hy h1 h2 (by omega) h4 h5 (by omega)
end Go.Proofs.Ytjchmajamlehmaa.X
