/- A twin as its object: what is told of each field, and of all. No program in sight. -/
import Derived.Test.YtlapjlbmhaalbaaXq7
namespace Go.Proofs.Ytlapjlbmhaalbaa.X
open Go Go.RowKit

/-- An object's twin, or 0 where there is none. -/
def twn (W : Int) (xs ys : List Int) (v : Int) : Int := if oErr W xs ys v = 0 ∧ ldw xs ys v / 72057594037927936 ≠ 255 then ldw xs ys (v + 1) else 0
/-- 1 where a field of a twin is right. -/
def fF (W : Int) (xs ys : List Int) (s a t : Int) (p : Bool) (i : Int) : Int :=
  if p = true ∧ ldw xs ys (a + 2 + i) ≠ 0 ∧ ldw xs ys (t + 2 + i) ≠ 0 then
    if 1 ≤ ldw xs ys (a + 2 + i) / 4294967296 ∧ ldw xs ys (a + 2 + i) / 4294967296 ≤ 2 ∧ ldw xs ys (a + 2 + i) / 4294967296 - 1 = s then
      if ldw xs ys (a + 2 + i) = ldw xs ys (t + 2 + i) then 1 else 0
    else if twn W xs ys (ldw xs ys (a + 2 + i)) = ldw xs ys (t + 2 + i) then 1 else 0
  else if ldw xs ys (a + 2 + i) = ldw xs ys (t + 2 + i) then 1 else 0
/-- 1 where the first fields are right. -/
def aF (W : Int) (xs ys : List Int) (s a t L M n : Int) : Int := if ∀ k : Nat, k < n.toNat → fF W xs ys s a t (isPtr L M k) k = 1 then 1 else 0
theorem if1 {c : Prop} [Decidable c] (h : (if c then (1 : Int) else 0) = 1) : c := by
  by_cases k : c
  · exact k
  · rw [if_neg k] at h; cases h
section
variable {W : Int} {xs ys : List Int} {s a t L M n i v w : Int} {p : Bool}
theorem aF_0 (h : n = 0) : aF W xs ys s a t L M n = 1 := by unfold aF; rw [if_pos]; intro k hk; omega
theorem aF_next (h : aF W xs ys s a t L M i = 1) (h0 : 0 ≤ i) (e : fF W xs ys s a t (isPtr L M i) i = 1) (hn : n = i + 1) : aF W xs ys s a t L M n = 1 := by
  unfold aF at h ⊢
  have h := if1 h
  rw [if_pos]
  intro k hk
  by_cases hl : (k : Int) < i
  · exact h k (by omega)
  · have : (k : Int) = i := by omega
    rw [this]; exact e
theorem aF_no (h0 : 0 ≤ i) (hi : i < n) (e : fF W xs ys s a t (isPtr L M i) i = 0) : aF W xs ys s a t L M n = 0 := by
  unfold aF
  rw [if_neg]
  intro h
  have := h i.toNat (by omega)
  rw [Int.toNat_of_nonneg h0, e] at this
  cases this
theorem twn_ok (h : oErr W xs ys v = 0) (k : ldw xs ys v / 72057594037927936 ≠ 255) : twn W xs ys v = ldw xs ys (v + 1) := by unfold twn; rw [if_pos ⟨h, k⟩]
theorem twn_no (h : ¬ (oErr W xs ys v = 0 ∧ ldw xs ys v / 72057594037927936 ≠ 255)) : twn W xs ys v = 0 := by unfold twn; rw [if_neg h]
theorem fF_p (hp : p = false ∨ ldw xs ys (a + 2 + i) = 0 ∨ ldw xs ys (t + 2 + i) = 0) (e : ldw xs ys (a + 2 + i) = ldw xs ys (t + 2 + i)) : fF W xs ys s a t p i = 1 := by
  unfold fF
  rw [if_neg, if_pos e]
  rintro ⟨h1, h2, h3⟩
  rcases hp with h | h | h
  · rw [h1] at h; cases h
  · exact h2 h
  · exact h3 h
theorem fF_p0 (hp : p = false ∨ ldw xs ys (a + 2 + i) = 0 ∨ ldw xs ys (t + 2 + i) = 0) (e : ldw xs ys (a + 2 + i) ≠ ldw xs ys (t + 2 + i)) : fF W xs ys s a t p i = 0 := by
  unfold fF
  rw [if_neg, if_neg e]
  rintro ⟨h1, h2, h3⟩
  rcases hp with h | h | h
  · rw [h1] at h; cases h
  · exact h2 h
  · exact h3 h
theorem fF_o (ho : 1 ≤ ldw xs ys (a + 2 + i) / 4294967296 ∧ ldw xs ys (a + 2 + i) / 4294967296 ≤ 2 ∧ ldw xs ys (a + 2 + i) / 4294967296 - 1 = s) (e : ldw xs ys (a + 2 + i) = ldw xs ys (t + 2 + i)) : fF W xs ys s a t p i = 1 := by
  unfold fF
  by_cases h : p = true ∧ ldw xs ys (a + 2 + i) ≠ 0 ∧ ldw xs ys (t + 2 + i) ≠ 0
  · rw [if_pos h, if_pos ho, if_pos e]
  · rw [if_neg h, if_pos e]
theorem fF_o0 (hp : p = true) (h1 : ldw xs ys (a + 2 + i) ≠ 0) (h2 : ldw xs ys (t + 2 + i) ≠ 0) (ho : 1 ≤ ldw xs ys (a + 2 + i) / 4294967296 ∧ ldw xs ys (a + 2 + i) / 4294967296 ≤ 2 ∧ ldw xs ys (a + 2 + i) / 4294967296 - 1 = s) (e : ldw xs ys (a + 2 + i) ≠ ldw xs ys (t + 2 + i)) : fF W xs ys s a t p i = 0 := by
  unfold fF; rw [if_pos ⟨hp, h1, h2⟩, if_pos ho, if_neg e]
theorem fF_t (hp : p = true) (h1 : ldw xs ys (a + 2 + i) ≠ 0) (h2 : ldw xs ys (t + 2 + i) ≠ 0) (ho : ¬ (1 ≤ ldw xs ys (a + 2 + i) / 4294967296 ∧ ldw xs ys (a + 2 + i) / 4294967296 ≤ 2 ∧ ldw xs ys (a + 2 + i) / 4294967296 - 1 = s))
    (h3 : oErr W xs ys (ldw xs ys (a + 2 + i)) = 0) (h4 : ldw xs ys (ldw xs ys (a + 2 + i)) / 72057594037927936 ≠ 255) (e : ldw xs ys (ldw xs ys (a + 2 + i) + 1) = ldw xs ys (t + 2 + i)) : fF W xs ys s a t p i = 1 := by
  unfold fF; rw [if_pos ⟨hp, h1, h2⟩, if_neg ho, twn_ok h3 h4, if_pos e]
theorem fF_t0 (hp : p = true) (h1 : ldw xs ys (a + 2 + i) ≠ 0) (h2 : ldw xs ys (t + 2 + i) ≠ 0) (ho : ¬ (1 ≤ ldw xs ys (a + 2 + i) / 4294967296 ∧ ldw xs ys (a + 2 + i) / 4294967296 ≤ 2 ∧ ldw xs ys (a + 2 + i) / 4294967296 - 1 = s))
    (h3 : oErr W xs ys (ldw xs ys (a + 2 + i)) = 0) (h4 : ldw xs ys (ldw xs ys (a + 2 + i)) / 72057594037927936 ≠ 255) (e : ldw xs ys (ldw xs ys (a + 2 + i) + 1) ≠ ldw xs ys (t + 2 + i)) : fF W xs ys s a t p i = 0 := by
  unfold fF; rw [if_pos ⟨hp, h1, h2⟩, if_neg ho, twn_ok h3 h4, if_neg e]
theorem fF_n0 (hp : p = true) (h1 : ldw xs ys (a + 2 + i) ≠ 0) (h2 : ldw xs ys (t + 2 + i) ≠ 0) (ho : ¬ (1 ≤ ldw xs ys (a + 2 + i) / 4294967296 ∧ ldw xs ys (a + 2 + i) / 4294967296 ≤ 2 ∧ ldw xs ys (a + 2 + i) / 4294967296 - 1 = s))
    (h3 : ¬ (oErr W xs ys (ldw xs ys (a + 2 + i)) = 0 ∧ ldw xs ys (ldw xs ys (a + 2 + i)) / 72057594037927936 ≠ 255)) : fF W xs ys s a t p i = 0 := by
  unfold fF; rw [if_pos ⟨hp, h1, h2⟩, if_neg ho, twn_no h3, if_neg (fun e => h2 e.symm)]

/-- 1 where the first fields that are pointers are nothing. -/
def nP (xs ys : List Int) (a L M n : Int) : Int := if ∀ k : Nat, k < n.toNat → isPtr L M k = true → ldw xs ys (a + 2 + k) = 0 then 1 else 0
theorem nP_0 (h : n = 0) : nP xs ys a L M n = 1 := by unfold nP; rw [if_pos]; intro k hk; omega
theorem nP_next (h : nP xs ys a L M i = 1) (h0 : 0 ≤ i) (e : isPtr L M i = false ∨ ldw xs ys (a + 2 + i) = 0) (hn : n = i + 1) : nP xs ys a L M n = 1 := by
  unfold nP at h ⊢
  have h := if1 h
  rw [if_pos]
  intro k hk hp
  by_cases hl : (k : Int) < i
  · exact h k (by omega) hp
  · have : (k : Int) = i := by omega
    rw [this] at hp ⊢
    rcases e with e | e
    · rw [hp] at e; cases e
    · exact e
theorem ldw_mvi {c d : Int} (h1 : (xs.length : Int) = W) (h2 : (ys.length : Int) = W) (ha : 1 ≤ a / 4294967296 ∧ a / 4294967296 ≤ 2 ∧ a % 4294967296 + n ≤ W) (hc : 1 ≤ c / 4294967296 ∧ c / 4294967296 ≤ 2 ∧ c % 4294967296 + n ≤ W) (hW : W ≤ 4096) (hi : 0 ≤ i ∧ i < n) (hd : d = c + i) :
    ldw (mvx xs ys a c n) (mvy xs ys a c n) d = ldw xs ys (a + i) := by
  subst hd
  have hl : ((seg (if a / 4294967296 = 1 then xs else ys) (a % 4294967296) n).length : Int) = n := by split <;> exact len_seg (by omega) (by omega) (by omega)
  have hs : ix (seg (if a / 4294967296 = 1 then xs else ys) (a % 4294967296) n) i = ldw xs ys (a + i) := by
    rw [ix_seg (by omega) hi.1 hi.2]
    by_cases k : a / 4294967296 = 1
    · rw [if_pos k, ldw_1 (by omega)]; congr 1; omega
    · rw [if_neg k, ldw_2 (by omega)]; congr 1; omega
  unfold mvx mvy
  by_cases h : c / 4294967296 = 1
  · rw [if_pos h, if_pos h, ldw_1 (by omega), ix_spl_in (by omega) (by omega) (by omega) (by omega), ← hs]; congr 1; omega
  · rw [if_neg h, if_neg h, ldw_2 (by omega), ix_spl_in (by omega) (by omega) (by omega) (by omega), ← hs]; congr 1; omega
theorem tw_copy {c d : Int} (h1 : (xs.length : Int) = W) (h2 : (ys.length : Int) = W) (ha : 1 ≤ a / 4294967296 ∧ a / 4294967296 ≤ 2 ∧ a % 4294967296 + n ≤ W) (hc : 1 ≤ c / 4294967296 ∧ c / 4294967296 ≤ 2 ∧ c % 4294967296 + n ≤ W) (hW : W ≤ 4096) (hne : a / 4294967296 ≠ c / 4294967296) (hn : 2 ≤ n) (hi : 0 ≤ i ∧ i < n ∧ i ≠ 1) (hd : d = c + i) :
    ldw (tX xs ys a c n) (tY xs ys a c n) d = ldw xs ys (a + i) := by
  unfold tX tY
  rw [ldw_other c (by omega) (by omega) (by omega), ldw_other 0 (by omega) (by omega) (by omega)]
  exact ldw_mvi h1 h2 ha hc hW ⟨hi.1, hi.2.1⟩ hd
/-- A twin that is made just now. -/
theorem rs_new {c : Int} (h1 : (xs.length : Int) = W) (h2 : (ys.length : Int) = W) (hL : n = (ldw xs ys a / 4294967296) % 16777216 + 2) (ha : 1 ≤ a / 4294967296 ∧ a / 4294967296 ≤ 2 ∧ a % 4294967296 + n ≤ W) (hc : 1 ≤ c / 4294967296 ∧ c / 4294967296 ≤ 2 ∧ c % 4294967296 + n ≤ W) (hW : W ≤ 4096)
    (hne : a / 4294967296 ≠ c / 4294967296) (h3 : oErr W xs ys a = 0) (h4 : ldw xs ys a / 72057594037927936 ≠ 255) (hp : nP xs ys a ((ldw xs ys a / 4294967296) % 16777216) M ((ldw xs ys a / 4294967296) % 16777216) = 1) :
    ldw (tX xs ys a c n) (tY xs ys a c n) a = ldw xs ys a ∧ ldw (tX xs ys a c n) (tY xs ys a c n) (a + 1) = c ∧ ldw (tX xs ys a c n) (tY xs ys a c n) c = ldw xs ys a ∧ oErr W (tX xs ys a c n) (tY xs ys a c n) a = 0 ∧ oErr W (tX xs ys a c n) (tY xs ys a c n) c = 0 ∧
    aF W (tX xs ys a c n) (tY xs ys a c n) s a c ((ldw xs ys a / 4294967296) % 16777216) M ((ldw xs ys a / 4294967296) % 16777216) = 1 := by
  obtain ⟨g1, g2⟩ := tw_new h1 h2 (by omega) ha hc hW hne
  have g3 : ldw (tX xs ys a c n) (tY xs ys a c n) c = ldw xs ys a := (tw_copy h1 h2 ha hc hW hne (by omega) (i := 0) (by omega) (by omega)).trans (by rw [Int.add_zero])
  obtain ⟨k1, k2, k3⟩ := oErr_ok W xs ys a h3
  refine ⟨g1, g2, g3, by rw [oErr_cong g1]; exact h3, ?_, ?_⟩
  · refine oErr_0 (by omega) ?_ ?_
    · rw [g3]; exact k2
    · rw [g3]; omega
  · unfold aF
    rw [if_pos]
    intro k hk
    have e1 : ldw (tX xs ys a c n) (tY xs ys a c n) (a + 2 + k) = ldw xs ys (a + 2 + k) := by
      rcases tw_d h1 h2 (by omega) ha hc hW (d := a + 2 + k) (by omega) with h | h | h
      · exact h
      · omega
      · omega
    have e2 : ldw (tX xs ys a c n) (tY xs ys a c n) (c + 2 + k) = ldw xs ys (a + 2 + k) := (tw_copy h1 h2 ha hc hW hne (by omega) (i := 2 + k) (by omega) (by omega)).trans (by congr 1; omega)
    refine fF_p ?_ (by rw [e1, e2])
    cases hq : isPtr ((ldw xs ys a / 4294967296) % 16777216) M k with
    | false => exact .inl rfl
    | true =>
      right; left
      rw [e1]
      unfold nP at hp
      exact if1 hp k hk hq
theorem nP_eq (h : nP xs ys a L M i = 1) (e : i = n) : nP xs ys a L M n = 1 := by subst e; exact h
theorem aF_eq (h : aF W xs ys s a t L M i = 1) (e : i = n) : aF W xs ys s a t L M n = 1 := by subst e; exact h
/-- The same, as it is read behind. -/
theorem rs_new2 {c : Int} (h1 : (xs.length : Int) = W) (h2 : (ys.length : Int) = W) (hL : n = (ldw xs ys a / 4294967296) % 16777216 + 2) (ha : 1 ≤ a / 4294967296 ∧ a / 4294967296 ≤ 2 ∧ a % 4294967296 + n ≤ W) (hc : 1 ≤ c / 4294967296 ∧ c / 4294967296 ≤ 2 ∧ c % 4294967296 + n ≤ W) (hW : W ≤ 4096)
    (hne : a / 4294967296 ≠ c / 4294967296) (h3 : oErr W xs ys a = 0) (h4 : ldw xs ys a / 72057594037927936 ≠ 255) (hp : nP xs ys a ((ldw xs ys a / 4294967296) % 16777216) (ldw xs ys a % 4294967296) ((ldw xs ys a / 4294967296) % 16777216) = 1) :
    ldw (tX xs ys a c n) (tY xs ys a c n) a = ldw xs ys a ∧ ldw (tX xs ys a c n) (tY xs ys a c n) (a + 1) = c ∧ ldw (tX xs ys a c n) (tY xs ys a c n) (ldw (tX xs ys a c n) (tY xs ys a c n) (a + 1)) = ldw xs ys a ∧ oErr W (tX xs ys a c n) (tY xs ys a c n) a = 0 ∧ oErr W (tX xs ys a c n) (tY xs ys a c n) (ldw (tX xs ys a c n) (tY xs ys a c n) (a + 1)) = 0 ∧
    aF W (tX xs ys a c n) (tY xs ys a c n) s a (ldw (tX xs ys a c n) (tY xs ys a c n) (a + 1)) ((ldw (tX xs ys a c n) (tY xs ys a c n) a / 4294967296) % 16777216) (ldw (tX xs ys a c n) (tY xs ys a c n) a % 4294967296) ((ldw (tX xs ys a c n) (tY xs ys a c n) a / 4294967296) % 16777216) = 1 := by
  obtain ⟨g1, g2, g3, g4, g5, g6⟩ := rs_new (s := s) h1 h2 hL ha hc hW hne h3 h4 hp
  rw [g2, g1]
  exact ⟨rfl, rfl, g3, g4, g5, g6⟩
end
end Go.Proofs.Ytlapjlbmhaalbaa.X
