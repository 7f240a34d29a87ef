/- What is told of a space: sums of words, beginnings, kinds. No program in sight. -/
import Derived.Test.YtjchmajamlehmaaXq4
namespace Go.Proofs.Ytjchmajamlehmaa.X
open Go Go.RowKit
set_option linter.unusedVariables false

theorem wl_ok {W : Int} {xs ys : List Int} {s lim : Int} (hs : 0 ≤ s ∧ s ≤ 1) (hl : lim ≤ 4096) : ∀ (k : Nat) (i : Int), 0 ≤ i → U64s (wl W xs ys s lim k i).2 ∧ ((wl W xs ys s lim k i).2.length : Int) ≤ max 0 (lim - i)
  | 0, i, _ => ⟨U64s.nil, by simp only [wl, List.length_nil]; omega⟩
  | k + 1, i, h => by
    have hp := objW_pos xs ys ((s + 1) * 4294967296 + i)
    simp only [wl]
    split
    · exact ⟨U64s.nil, by simp only [List.length_nil]; omega⟩
    · split
      · exact ⟨U64s.nil, by simp only [List.length_nil]; omega⟩
      · split
        · exact ⟨U64s.nil, by simp only [List.length_nil]; omega⟩
        · obtain ⟨h1, h2⟩ := wl_ok (W := W) (xs := xs) (ys := ys) hs hl k (i + objW xs ys ((s + 1) * 4294967296 + i)) (by omega)
          exact ⟨U64s.cons (by omega) h1, by simp only [List.length_cons]; omega⟩
theorem wA_ok (W : Int) (xs ys : List Int) (s lim : Int) (hs : 0 ≤ s ∧ s ≤ 1) (hl : 0 ≤ lim ∧ lim ≤ 4096) : U64s (wA W xs ys s lim) ∧ ((wA W xs ys s lim).length : Int) ≤ lim := by
  obtain ⟨h1, h2⟩ := wl_ok (W := W) (xs := xs) (ys := ys) (s := s) (lim := lim) hs hl.2 (lim - 0).toNat 0 (Int.le_refl 0)
  exact ⟨h1, by unfold wA wf; omega⟩
theorem wO_ok (W : Int) (xs ys : List Int) (s lim : Int) (hs : 0 ≤ s ∧ s ≤ 1) (hl : 0 ≤ lim ∧ lim ≤ 4096) : U64s (wO W xs ys s lim) ∧ ((wO W xs ys s lim).length : Int) ≤ lim := by
  obtain ⟨h1, h2⟩ := wA_ok W xs ys s lim hs hl
  refine ⟨fun v hv => h1 v (List.mem_filter.1 hv).1, ?_⟩
  have := List.length_filter_le (nf W xs ys) (wA W xs ys s lim)
  unfold wO; omega

/-- The words of objects, and of fillers. -/
def wsN (W : Int) (xs ys : List Int) : List Int → Int
  | [] => 0
  | a :: l => (if oErr W xs ys a = 0 ∧ ldw xs ys a / 72057594037927936 ≠ 255 then (ldw xs ys a / 4294967296) % 16777216 + 2 else 0) + wsN W xs ys l
def wsG (W : Int) (xs ys : List Int) : List Int → Int
  | [] => 0
  | a :: l => (if oErr W xs ys a = 0 ∧ ldw xs ys a / 72057594037927936 = 255 then (ldw xs ys a / 4294967296) % 16777216 + 1 else 0) + wsG W xs ys l
theorem wsN_app (W : Int) (xs ys : List Int) : ∀ (l r : List Int), wsN W xs ys (l ++ r) = wsN W xs ys l + wsN W xs ys r
  | [], r => by simp [wsN]
  | a :: l, r => by simp only [List.cons_append, wsN]; rw [wsN_app W xs ys l r]; omega
theorem wsG_app (W : Int) (xs ys : List Int) : ∀ (l r : List Int), wsG W xs ys (l ++ r) = wsG W xs ys l + wsG W xs ys r
  | [], r => by simp [wsG]
  | a :: l, r => by simp only [List.cons_append, wsG]; rw [wsG_app W xs ys l r]; omega
theorem ws_bd (W : Int) (xs ys : List Int) : ∀ l : List Int, 0 ≤ wsN W xs ys l ∧ wsN W xs ys l ≤ 16777220 * (l.length : Int) ∧ 0 ≤ wsG W xs ys l ∧ wsG W xs ys l ≤ 16777220 * (l.length : Int)
  | [] => by simp [wsN, wsG]
  | a :: l => by
    have := ws_bd W xs ys l
    simp only [wsN, wsG, List.length_cons]
    split <;> split <;> omega
theorem ws_tk (W : Int) (xs ys l : List Int) (k : Int) (h : 0 ≤ k) : 0 ≤ wsN W xs ys (l.take (Int.toNat k)) ∧ wsN W xs ys (l.take (Int.toNat k)) ≤ 16777220 * k ∧ 0 ≤ wsG W xs ys (l.take (Int.toNat k)) ∧ wsG W xs ys (l.take (Int.toNat k)) ≤ 16777220 * k := by
  have := ws_bd W xs ys (l.take (Int.toNat k))
  have hl : ((l.take (Int.toNat k)).length : Int) ≤ k := by simp; omega
  omega
theorem wsN_next {W : Int} {xs ys l : List Int} {k v : Int} (h0 : 0 ≤ k) (hk : k < (l.length : Int)) (hv : (oErr W xs ys (ix l k) = 0 ∧ ldw xs ys (ix l k) / 72057594037927936 ≠ 255 ∧ v = wsN W xs ys (l.take (Int.toNat k)) + ((ldw xs ys (ix l k) / 4294967296) % 16777216 + 2)) ∨ ((oErr W xs ys (ix l k) ≠ 0 ∨ ldw xs ys (ix l k) / 72057594037927936 = 255) ∧ v = wsN W xs ys (l.take (Int.toNat k)))) : v = wsN W xs ys (l.take (Int.toNat (k + 1))) := by
  rw [take_next h0 hk, wsN_app]
  simp only [wsN]
  split <;> omega
theorem wsG_next {W : Int} {xs ys l : List Int} {k v : Int} (h0 : 0 ≤ k) (hk : k < (l.length : Int)) (hv : (oErr W xs ys (ix l k) = 0 ∧ ldw xs ys (ix l k) / 72057594037927936 = 255 ∧ v = wsG W xs ys (l.take (Int.toNat k)) + ((ldw xs ys (ix l k) / 4294967296) % 16777216 + 1)) ∨ ((oErr W xs ys (ix l k) ≠ 0 ∨ ldw xs ys (ix l k) / 72057594037927936 ≠ 255) ∧ v = wsG W xs ys (l.take (Int.toNat k)))) : v = wsG W xs ys (l.take (Int.toNat (k + 1))) := by
  rw [take_next h0 hk, wsG_app]
  simp only [wsG]
  split <;> omega
theorem wsN_all {W : Int} {xs ys l : List Int} {k : Int} (hk : (l.length : Int) ≤ k) : wsN W xs ys (l.take (Int.toNat k)) = wsN W xs ys l := by rw [List.take_of_length_le (by omega)]
theorem wsG_all {W : Int} {xs ys l : List Int} {k : Int} (hk : (l.length : Int) ≤ k) : wsG W xs ys (l.take (Int.toNat k)) = wsG W xs ys l := by rw [List.take_of_length_le (by omega)]

/-- A beginning. -/
theorem wf_pre {W : Int} {xs ys : List Int} {s a b : Int} (hab : a ≤ b) : ∀ (k : Nat) (i : Int), (a - i).toNat ≤ k → (wf W xs ys s a i).1 = 0 → (wf W xs ys s b i).1 = 0 → ∃ t, (wf W xs ys s b i).2 = (wf W xs ys s a i).2 ++ t
  | k, i, hk, h1, h2 => by
    have hp := objW_pos xs ys ((s + 1) * 4294967296 + i)
    by_cases hl : a ≤ i
    · rw [wf_end hl]; exact ⟨_, rfl⟩
    · by_cases he : oErr W xs ys ((s + 1) * 4294967296 + i) = 0
      · by_cases hb : a < i + objW xs ys ((s + 1) * 4294967296 + i)
        · rw [wf_big (by omega) he hb] at h1; cases h1
        · have hn := wf_next (W := W) (xs := xs) (ys := ys) (s := s) (lim := a) (i := i) (by omega) he rfl (by omega)
          have hm := wf_next (W := W) (xs := xs) (ys := ys) (s := s) (lim := b) (i := i) (by omega) he rfl (by omega)
          rw [hn] at h1 ⊢
          rw [hm] at h2 ⊢
          cases k with
          | zero => omega
          | succ k =>
            obtain ⟨t, ht⟩ := wf_pre hab k _ (by omega) h1 h2
            exact ⟨t, by simp only [List.cons_append]; rw [ht]⟩
      · rw [wf_err (by omega) he] at h1; exact absurd h1 he
theorem wA_pre {W : Int} {xs ys : List Int} {s a b : Int} (hab : a ≤ b) (h1 : wE W xs ys s a = 0) (h2 : wE W xs ys s b = 0) : (wA W xs ys s b).take (Int.toNat ((wA W xs ys s a).length : Int)) = wA W xs ys s a ∧ ((wA W xs ys s a).length : Int) ≤ ((wA W xs ys s b).length : Int) := by
  obtain ⟨t, ht⟩ := wf_pre (s := s) hab (a - 0).toNat 0 (Nat.le_refl _) h1 h2
  have ht : wA W xs ys s b = wA W xs ys s a ++ t := ht
  rw [ht]
  exact ⟨by simp, by simp; omega⟩
theorem wA_pre3 {W : Int} {xs ys : List Int} {s a b : Int} (h2 : wE W xs ys s b = 0) : b < a ∨ wE W xs ys s a ≠ 0 ∨ ((wA W xs ys s b).take (Int.toNat ((wA W xs ys s a).length : Int)) = wA W xs ys s a ∧ ((wA W xs ys s a).length : Int) ≤ ((wA W xs ys s b).length : Int)) := by
  by_cases h : b < a
  · exact .inl h
  · by_cases h1 : wE W xs ys s a = 0
    · exact .inr (.inr (wA_pre (by omega) h1 h2))
    · exact .inr (.inl h1)

/-- Object by object. -/
theorem chain_0 {W : Int} {xs ys : List Int} {s lim : Int} (h : 0 ≤ lim) (h0 : wE W xs ys s lim = 0) : chain W xs ys s lim 0 ((wA W xs ys s lim).drop (Int.toNat 0)) := chain_of (lim - 0).toNat 0 (Nat.le_refl _) h h0
theorem drop_cons1 {l : List Int} {i : Int} (h0 : 0 ≤ i) (h : i < (l.length : Int)) : l.drop (Int.toNat i) = ix l i :: l.drop (Int.toNat (i + 1)) := by
  have h1 : i.toNat < l.length := by omega
  have hn : (i + 1).toNat = i.toNat + 1 := by omega
  rw [hn, List.drop_eq_getElem_cons h1]
  simp [ix, h1]
theorem chain_ix {W : Int} {xs ys l : List Int} {s lim at' i : Int} (h : chain W xs ys s lim at' (l.drop (Int.toNat i))) (h0 : 0 ≤ i) (hi : i ≤ (l.length : Int)) :
    ((l.length : Int) = i ∧ at' = lim) ∨ (i < (l.length : Int) ∧ ix l i = (s + 1) * 4294967296 + at' ∧ at' < lim ∧ oErr W xs ys (ix l i) = 0 ∧ ((ldw xs ys (ix l i) / 72057594037927936 = 255 ∧ at' + ((ldw xs ys (ix l i) / 4294967296) % 16777216 + 1) ≤ lim) ∨ (ldw xs ys (ix l i) / 72057594037927936 ≠ 255 ∧ at' + ((ldw xs ys (ix l i) / 4294967296) % 16777216 + 2) ≤ lim))) := by
  by_cases hl : i < (l.length : Int)
  · rw [drop_cons1 h0 hl] at h
    simp only [chain] at h
    obtain ⟨h1, h2, h3, h4, _⟩ := h
    refine .inr ⟨hl, h1, h2, h3, ?_⟩
    by_cases ht : ldw xs ys (ix l i) / 72057594037927936 = 255
    · rw [objW_1 ht] at h4; exact .inl ⟨ht, h4⟩
    · rw [objW_2 ht] at h4; exact .inr ⟨ht, h4⟩
  · have e : l.drop (Int.toNat i) = [] := List.drop_of_length_le (by omega)
    rw [e] at h
    simp only [chain] at h
    exact .inl ⟨by omega, h⟩
theorem chain_next {W : Int} {xs ys l : List Int} {s lim at' i j : Int} (h : chain W xs ys s lim at' (l.drop (Int.toNat i))) (h0 : 0 ≤ i) (hi : i < (l.length : Int))
    (hj : (ldw xs ys (ix l i) / 72057594037927936 = 255 ∧ j = at' + ((ldw xs ys (ix l i) / 4294967296) % 16777216 + 1)) ∨ (ldw xs ys (ix l i) / 72057594037927936 ≠ 255 ∧ j = at' + ((ldw xs ys (ix l i) / 4294967296) % 16777216 + 2))) : chain W xs ys s lim j (l.drop (Int.toNat (i + 1))) := by
  rw [drop_cons1 h0 hi] at h
  simp only [chain] at h
  rw [objW_j hj]
  exact h.2.2.2.2
theorem ws_sum {W : Int} {xs ys l : List Int} {at' i j : Int} (h : wsN W xs ys (l.take (Int.toNat i)) + wsG W xs ys (l.take (Int.toNat i)) = at') (h0 : 0 ≤ i) (hi : i < (l.length : Int)) (he : oErr W xs ys (ix l i) = 0)
    (hj : (ldw xs ys (ix l i) / 72057594037927936 = 255 ∧ j = at' + ((ldw xs ys (ix l i) / 4294967296) % 16777216 + 1)) ∨ (ldw xs ys (ix l i) / 72057594037927936 ≠ 255 ∧ j = at' + ((ldw xs ys (ix l i) / 4294967296) % 16777216 + 2))) : wsN W xs ys (l.take (Int.toNat (i + 1))) + wsG W xs ys (l.take (Int.toNat (i + 1))) = j := by
  rw [take_next h0 hi, wsN_app, wsG_app]
  simp only [wsN, wsG]
  split <;> split <;> omega
theorem wsN_flt (W : Int) (xs ys : List Int) : ∀ l : List Int, wsN W xs ys (l.filter (nf W xs ys)) = wsN W xs ys l
  | [] => rfl
  | a :: l => by
    rw [List.filter_cons]
    split
    · simp only [wsN]; rw [wsN_flt W xs ys l]
    · rename_i h
      simp only [wsN]
      have hf : oErr W xs ys a = 0 ∧ ldw xs ys a / 72057594037927936 = 255 := by
        simp only [nf, isFil, Bool.not_eq_true', decide_eq_false_iff_not, Decidable.not_not] at h; exact h
      rw [if_neg (by omega), wsN_flt W xs ys l]; omega
/-- Kinds: how many are no fillers among the first. -/
def cntO (W : Int) (xs ys l : List Int) (i : Int) : Int := (((l.take (Int.toNat i)).filter (nf W xs ys)).length : Int)
theorem cnt_0 (W : Int) (xs ys l : List Int) : cntO W xs ys l 0 = 0 := by simp [cntO]
theorem cnt_skip {W : Int} {xs ys l : List Int} {i v : Int} (h0 : 0 ≤ i) (hi : i < (l.length : Int)) (hf : oErr W xs ys (ix l i) = 0 ∧ ldw xs ys (ix l i) / 72057594037927936 = 255) (e : v = cntO W xs ys l i) : v = cntO W xs ys l (i + 1) := by
  rw [e]; unfold cntO
  rw [take_next h0 hi, List.filter_append]
  simp [nf, isFil, hf]
theorem cnt_keep {W : Int} {xs ys l : List Int} {i v : Int} (h0 : 0 ≤ i) (hi : i < (l.length : Int)) (hf : ¬ (oErr W xs ys (ix l i) = 0 ∧ ldw xs ys (ix l i) / 72057594037927936 = 255)) (e : v = cntO W xs ys l i + 1) : v = cntO W xs ys l (i + 1) := by
  rw [e]; unfold cntO
  have hn : nf W xs ys (ix l i) = true := by unfold nf isFil; rw [decide_eq_false hf]; rfl
  rw [take_next h0 hi, List.filter_append]
  simp [hn]
theorem cnt_ix {W : Int} {xs ys l : List Int} {i : Int} (h0 : 0 ≤ i) (hi : i < (l.length : Int)) (hf : ¬ (oErr W xs ys (ix l i) = 0 ∧ ldw xs ys (ix l i) / 72057594037927936 = 255)) : cntO W xs ys l i < ((l.filter (nf W xs ys)).length : Int) ∧ ix (l.filter (nf W xs ys)) (cntO W xs ys l i) = ix l i := by
  have hn : nf W xs ys (ix l i) = true := by unfold nf isFil; rw [decide_eq_false hf]; rfl
  have e : l = l.take (Int.toNat i) ++ (ix l i :: l.drop (Int.toNat (i + 1))) := by
    rw [← drop_cons1 h0 hi, List.take_append_drop]
  have e2 : l.filter (nf W xs ys) = (l.take (Int.toNat i)).filter (nf W xs ys) ++ (ix l i :: (l.drop (Int.toNat (i + 1))).filter (nf W xs ys)) := by
    conv => lhs; rw [e]
    rw [List.filter_append, List.filter_cons, if_pos hn]
  constructor
  · rw [e2]; unfold cntO; simp; omega
  · rw [e2]; unfold cntO ix; simp
theorem kinds_ix {W : Int} {xs ys : List Int} {s lim i : Int} (h0 : 0 ≤ i) : ((wA W xs ys s lim).length : Int) ≤ i ∨ (oErr W xs ys (ix (wA W xs ys s lim) i) = 0 ∧ ldw xs ys (ix (wA W xs ys s lim) i) / 72057594037927936 = 255) ∨ (cntO W xs ys (wA W xs ys s lim) i < ((wO W xs ys s lim).length : Int) ∧ ix (wO W xs ys s lim) (cntO W xs ys (wA W xs ys s lim) i) = ix (wA W xs ys s lim) i) := by
  by_cases hl : ((wA W xs ys s lim).length : Int) ≤ i
  · exact .inl hl
  · by_cases hf : oErr W xs ys (ix (wA W xs ys s lim) i) = 0 ∧ ldw xs ys (ix (wA W xs ys s lim) i) / 72057594037927936 = 255
    · exact .inr (.inl hf)
    · exact .inr (.inr (cnt_ix h0 (by omega) hf))
theorem cnt_bd {W : Int} {xs ys l : List Int} {i : Int} (h0 : 0 ≤ i) : 0 ≤ cntO W xs ys l i ∧ cntO W xs ys l i ≤ i := by
  unfold cntO
  have h1 := List.length_filter_le (nf W xs ys) (l.take (Int.toNat i))
  have h2 : ((l.take (Int.toNat i)).length : Int) ≤ i := by simp; omega
  omega
theorem cut0 {k : IntKind} {xs : List Int} {n : Nat} : ((List.map (SV.int k) xs).take n).drop (Int.toNat 0) = List.map (SV.int k) (xs.take n) := by simp
theorem cnt_all {W : Int} {xs ys l : List Int} {i : Int} (hi : (l.length : Int) ≤ i) : cntO W xs ys l i = ((l.filter (nf W xs ys)).length : Int) := by
  unfold cntO; rw [List.take_of_length_le (by omega)]
end Go.Proofs.Ytjchmajamlehmaa.X
