/- Twins of some addresses: what is told of each, and that it stays so while more twins are made. No program in sight. -/
import Derived.Test.YtlapjlbmhaalbaaXq6
namespace Go.Proofs.Ytlapjlbmhaalbaa.X
open Go Go.RowKit

/-- An address's twin, as it is told. -/
def TwOk (W : Int) (xs ys : List Int) (s a t : Int) : Prop :=
  (a = 0 ∧ t = 0) ∨ (a ≠ 0 ∧ (1 ≤ a / 4294967296 ∧ a / 4294967296 ≤ 2) ∧ a / 4294967296 - 1 = s ∧ t = a) ∨
  (a ≠ 0 ∧ ¬ (a / 4294967296 - 1 = s) ∧ oErr W xs ys a = 0 ∧ ldw xs ys a / 72057594037927936 ≠ 255 ∧ t ≠ 0 ∧ ldw xs ys (a + 1) = t)
/-- The twins of the first ones. -/
structure TwAll (W : Int) (xs ys : List Int) (s : Int) (as ts : List Int) : Prop where
  each : ∀ k : Int, 0 ≤ k → k < (ts.length : Int) → TwOk W xs ys s (ix as k) (ix ts k)
section
variable {W : Int} {xs ys as ts : List Int} {a c n s t : Int}
theorem TwAll.nil : TwAll W xs ys s as [] := ⟨fun k h0 h => by simp at h; omega⟩
theorem TwAll.snoc (h : TwAll W xs ys s as ts) (e : TwOk W xs ys s (ix as (ts.length : Int)) t) : TwAll W xs ys s as (ts ++ [t]) := by
  refine ⟨fun k h0 hk => ?_⟩
  simp at hk
  by_cases hl : k < (ts.length : Int)
  · rw [ix_append1 h0 hl]; exact h.each k h0 hl
  · have : k = (ts.length : Int) := by omega
    subst this
    rw [ix_append2 (by omega)]
    simpa [ix] using e
theorem tw_new (h1 : (xs.length : Int) = W) (h2 : (ys.length : Int) = W) (hn : 2 ≤ n) (ha : 1 ≤ a / 4294967296 ∧ a / 4294967296 ≤ 2 ∧ a % 4294967296 + n ≤ W) (hc : 1 ≤ c / 4294967296 ∧ c / 4294967296 ≤ 2 ∧ c % 4294967296 + n ≤ W) (hW : W ≤ 4096) (hne : a / 4294967296 ≠ c / 4294967296) :
    ldw (tX xs ys a c n) (tY xs ys a c n) a = ldw xs ys a ∧ ldw (tX xs ys a c n) (tY xs ys a c n) (a + 1) = c := by
  constructor
  · rcases tw_d h1 h2 hn ha hc hW (d := a) ⟨ha.1, ha.2.1⟩ with h | h | h
    · exact h
    · omega
    · omega
  · obtain ⟨g1, g2, _, _⟩ : ((mvx xs ys a c n).length : Int) = W ∧ ((mvy xs ys a c n).length : Int) = W ∧ True ∧ True := by
      unfold mvx mvy
      refine ⟨?_, ?_, trivial, trivial⟩
      · split
        · rw [len_spl]; exact h1
          have : ((seg (if a / 4294967296 = 1 then xs else ys) (a % 4294967296) n).length : Int) = n := by
            split <;> exact len_seg (by omega) (by omega) (by omega)
          omega
        · exact h1
      · split
        · exact h2
        · rw [len_spl]; exact h2
          have : ((seg (if a / 4294967296 = 1 then xs else ys) (a % 4294967296) n).length : Int) = n := by
            split <;> exact len_seg (by omega) (by omega) (by omega)
          omega
    unfold tX tY
    exact ldw_same c (by omega) (by rw [len_stx]; omega) (by rw [len_sty]; omega) rfl
theorem TwOk.move {a' t' : Int} (h : TwOk W xs ys s a' t') (h1 : (xs.length : Int) = W) (h2 : (ys.length : Int) = W) (hn : 2 ≤ n) (ha : 1 ≤ a / 4294967296 ∧ a / 4294967296 ≤ 2 ∧ a % 4294967296 + n ≤ W) (hc : 1 ≤ c / 4294967296 ∧ c / 4294967296 ≤ 2 ∧ c % 4294967296 + n ≤ W) (hW : W ≤ 4096)
    (hs : c / 4294967296 - 1 = s) (hno : ldw xs ys (a + 1) = 0) : TwOk W (tX xs ys a c n) (tY xs ys a c n) s a' t' := by
  rcases h with h | h | ⟨g1, g2, g3, g4, g5, g6⟩
  · exact .inl h
  · exact .inr (.inl h)
  · obtain ⟨k1, k2, k3⟩ := oErr_ok W xs ys a' g3
    have hz : a' ≠ a + 1 := fun e => by
      subst e; rw [hno] at k2; omega
    have hw : ldw (tX xs ys a c n) (tY xs ys a c n) a' = ldw xs ys a' := by
      rcases tw_d h1 h2 hn ha hc hW (d := a') ⟨k1.1, k1.2.1⟩ with h | h | h
      · exact h
      · exact absurd h hz
      · omega
    have hw2 : ldw (tX xs ys a c n) (tY xs ys a c n) (a' + 1) = ldw xs ys (a' + 1) := by
      rcases tw_d h1 h2 hn ha hc hW (d := a' + 1) (by omega) with h | h | h
      · exact h
      · rw [h] at g6; omega
      · omega
    exact .inr (.inr ⟨g1, g2, by rw [oErr_cong hw]; exact g3, by rw [hw]; exact g4, g5, by rw [hw2]; exact g6⟩)
theorem TwAll.move (h : TwAll W xs ys s as ts) (h1 : (xs.length : Int) = W) (h2 : (ys.length : Int) = W) (hn : 2 ≤ n) (ha : 1 ≤ a / 4294967296 ∧ a / 4294967296 ≤ 2 ∧ a % 4294967296 + n ≤ W) (hc : 1 ≤ c / 4294967296 ∧ c / 4294967296 ≤ 2 ∧ c % 4294967296 + n ≤ W) (hW : W ≤ 4096)
    (hs : c / 4294967296 - 1 = s) (hno : ldw xs ys (a + 1) = 0) : TwAll W (tX xs ys a c n) (tY xs ys a c n) s as ts := ⟨fun k h0 hk => (h.each k h0 hk).move h1 h2 hn ha hc hW hs hno⟩
/-- One more: nothing. -/
theorem twa_0 {k : Int} (h : TwAll W xs ys s as ts) (hk : k = (ts.length : Int)) (h0 : ix as k = 0) : TwAll W xs ys s as (ts ++ [0]) := by
  subst hk; exact h.snoc (.inl ⟨h0, rfl⟩)
theorem twa_over {k : Int} (h : TwAll W xs ys s as ts) (hk : k = (ts.length : Int)) (h0 : ix as k ≠ 0) (h1 : 1 ≤ ix as k / 4294967296 ∧ ix as k / 4294967296 ≤ 2) (h2 : ix as k / 4294967296 - 1 = s) : TwAll W xs ys s as (ts ++ [ix as k]) := by
  subst hk; exact h.snoc (.inr (.inl ⟨h0, h1, h2, rfl⟩))
theorem twa_had {k : Int} (h : TwAll W xs ys s as ts) (hk : k = (ts.length : Int)) (h0 : ix as k ≠ 0) (h2 : ¬ (ix as k / 4294967296 - 1 = s)) (h3 : oErr W xs ys (ix as k) = 0) (h4 : ldw xs ys (ix as k) / 72057594037927936 ≠ 255) (h5 : ldw xs ys (ix as k + 1) ≠ 0) :
    TwAll W xs ys s as (ts ++ [ldw xs ys (ix as k + 1)]) := by
  subst hk; exact h.snoc (.inr (.inr ⟨h0, h2, h3, h4, h5, rfl⟩))
theorem twa_new {k : Int} (h : TwAll W xs ys s as ts) (hk : k = (ts.length : Int)) (h1 : (xs.length : Int) = W) (h2 : (ys.length : Int) = W) (hn : 2 ≤ n) (ha : 1 ≤ ix as k / 4294967296 ∧ ix as k / 4294967296 ≤ 2 ∧ ix as k % 4294967296 + n ≤ W) (hc : 1 ≤ c / 4294967296 ∧ c / 4294967296 ≤ 2 ∧ c % 4294967296 + n ≤ W) (hW : W ≤ 4096)
    (hs : c / 4294967296 - 1 = s) (hov : ¬ (ix as k / 4294967296 - 1 = s)) (h3 : oErr W xs ys (ix as k) = 0) (h4 : ldw xs ys (ix as k) / 72057594037927936 ≠ 255) (hno : ldw xs ys (ix as k + 1) = 0) :
    TwAll W (tX xs ys (ix as k) c n) (tY xs ys (ix as k) c n) s as (ts ++ [c]) := by
  obtain ⟨g1, g2⟩ := tw_new h1 h2 hn ha hc hW (by omega)
  subst hk
  exact (h.move h1 h2 hn ha hc hW hs hno).snoc (.inr (.inr ⟨by omega, hov, by rw [oErr_cong g1]; exact h3, by rw [g1]; exact h4, by omega, g2⟩))
end
end Go.Proofs.Ytlapjlbmhaalbaa.X
