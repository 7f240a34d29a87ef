/- A space, object by object: what is told of it. No program in sight. -/
import Derived.Test.YtjchmajamlehmaaXq2
namespace Go.Proofs.Ytjchmajamlehmaa.X
open Go Go.RowKit
set_option linter.unusedVariables false

/-- How many words the object at an address has. -/
def objW (xs ys : List Int) (a : Int) : Int := if ldw xs ys a / 72057594037927936 = 255 then (ldw xs ys a / 4294967296) % 16777216 + 1 else (ldw xs ys a / 4294967296) % 16777216 + 2
theorem objW_pos (xs ys : List Int) (a : Int) : 1 ≤ objW xs ys a := by unfold objW; split <;> omega
theorem objW_1 {xs ys : List Int} {a : Int} (h : ldw xs ys a / 72057594037927936 = 255) : objW xs ys a = (ldw xs ys a / 4294967296) % 16777216 + 1 := by unfold objW; rw [if_pos h]
theorem objW_2 {xs ys : List Int} {a : Int} (h : ldw xs ys a / 72057594037927936 ≠ 255) : objW xs ys a = (ldw xs ys a / 4294967296) % 16777216 + 2 := by unfold objW; rw [if_neg h]

/-- What is wrong, and the objects, from a place on. -/
def wl (W : Int) (xs ys : List Int) (s lim : Int) : Nat → Int → Int × List Int
  | 0, _ => (0, [])
  | k + 1, at' => if lim ≤ at' then (0, []) else if oErr W xs ys ((s + 1) * 4294967296 + at') ≠ 0 then (oErr W xs ys ((s + 1) * 4294967296 + at'), [])
    else if lim < at' + objW xs ys ((s + 1) * 4294967296 + at') then (10, [])
    else ((wl W xs ys s lim k (at' + objW xs ys ((s + 1) * 4294967296 + at'))).1, ((s + 1) * 4294967296 + at') :: (wl W xs ys s lim k (at' + objW xs ys ((s + 1) * 4294967296 + at'))).2)
theorem wl_fuel {W : Int} {xs ys : List Int} {s lim : Int} : ∀ (k j : Nat) (i : Int), (lim - i).toNat ≤ k → (lim - i).toNat ≤ j → wl W xs ys s lim k i = wl W xs ys s lim j i
  | 0, 0, _, _, _ => rfl
  | 0, j + 1, i, h, _ => by simp only [wl]; rw [if_pos (by omega)]
  | k + 1, 0, i, _, h => by simp only [wl]; rw [if_pos (by omega)]
  | k + 1, j + 1, i, h, h' => by
    have hp := objW_pos xs ys ((s + 1) * 4294967296 + i)
    by_cases hl : lim ≤ i
    · simp only [wl]; rw [if_pos hl, if_pos hl]
    · simp only [wl]
      rw [wl_fuel k j (i + objW xs ys ((s + 1) * 4294967296 + i)) (by omega) (by omega)]
def wf (W : Int) (xs ys : List Int) (s lim i : Int) : Int × List Int := wl W xs ys s lim (lim - i).toNat i
def wE (W : Int) (xs ys : List Int) (s lim : Int) : Int := (wf W xs ys s lim 0).1
def wA (W : Int) (xs ys : List Int) (s lim : Int) : List Int := (wf W xs ys s lim 0).2
section
variable {W : Int} {xs ys : List Int} {s lim i : Int}
theorem wf_end (h : lim ≤ i) : wf W xs ys s lim i = (0, []) := by
  unfold wf; rw [show (lim - i).toNat = 0 by omega]; rfl
theorem wf_err (h : i < lim) (e : oErr W xs ys ((s + 1) * 4294967296 + i) ≠ 0) : wf W xs ys s lim i = (oErr W xs ys ((s + 1) * 4294967296 + i), []) := by
  unfold wf; obtain ⟨k, hk⟩ : ∃ k, (lim - i).toNat = k + 1 := ⟨(lim - i).toNat - 1, by omega⟩
  rw [hk]; simp only [wl]; rw [if_neg (by omega), if_pos e]
theorem wf_big (h : i < lim) (e : oErr W xs ys ((s + 1) * 4294967296 + i) = 0) (hb : lim < i + objW xs ys ((s + 1) * 4294967296 + i)) : wf W xs ys s lim i = (10, []) := by
  unfold wf; obtain ⟨k, hk⟩ : ∃ k, (lim - i).toNat = k + 1 := ⟨(lim - i).toNat - 1, by omega⟩
  rw [hk]; simp only [wl]; rw [if_neg (by omega), if_neg (Decidable.not_not.2 e), if_pos hb]
theorem wf_next {j : Int} (h : i < lim) (e : oErr W xs ys ((s + 1) * 4294967296 + i) = 0) (hj : j = i + objW xs ys ((s + 1) * 4294967296 + i)) (hb : j ≤ lim) : wf W xs ys s lim i = ((wf W xs ys s lim j).1, ((s + 1) * 4294967296 + i) :: (wf W xs ys s lim j).2) := by
  have hp := objW_pos xs ys ((s + 1) * 4294967296 + i)
  subst hj
  unfold wf; obtain ⟨k, hk⟩ : ∃ k, (lim - i).toNat = k + 1 := ⟨(lim - i).toNat - 1, by omega⟩
  rw [hk]; simp only [wl]; rw [if_neg (by omega), if_neg (Decidable.not_not.2 e), if_neg (by omega)]
  rw [wl_fuel k (lim - (i + objW xs ys ((s + 1) * 4294967296 + i))).toNat _ (by omega) (Nat.le_refl _)]

variable {E : Int} {A out : List Int}
theorem objW_j {xs ys : List Int} {a i j : Int} (h : (ldw xs ys a / 72057594037927936 = 255 ∧ j = i + ((ldw xs ys a / 4294967296) % 16777216 + 1)) ∨ (ldw xs ys a / 72057594037927936 ≠ 255 ∧ j = i + ((ldw xs ys a / 4294967296) % 16777216 + 2))) : j = i + objW xs ys a := by
  rcases h with ⟨h, e⟩ | ⟨h, e⟩
  · rw [objW_1 h]; exact e
  · rw [objW_2 h]; exact e
theorem wE_end (h1 : E = (wf W xs ys s lim i).1) (h : lim ≤ i) : E = 0 := by rw [h1, wf_end h]
theorem wA_end (h2 : A = out ++ (wf W xs ys s lim i).2) (h : lim ≤ i) : out = A := by rw [h2, wf_end h]; simp
theorem wE_err (h1 : E = (wf W xs ys s lim i).1) (h : i < lim) (e : oErr W xs ys ((s + 1) * 4294967296 + i) ≠ 0) : oErr W xs ys ((s + 1) * 4294967296 + i) = E := by rw [h1, wf_err h e]
theorem wE_errn (h1 : E = (wf W xs ys s lim i).1) (h : i < lim) (e : oErr W xs ys ((s + 1) * 4294967296 + i) ≠ 0) : ¬ E = 0 := by rw [h1, wf_err h e]; exact e
theorem wE_big (h1 : E = (wf W xs ys s lim i).1) (h : i < lim) (e : oErr W xs ys ((s + 1) * 4294967296 + i) = 0) (hb : (ldw xs ys ((s + 1) * 4294967296 + i) / 72057594037927936 = 255 ∧ lim < i + ((ldw xs ys ((s + 1) * 4294967296 + i) / 4294967296) % 16777216 + 1)) ∨ (ldw xs ys ((s + 1) * 4294967296 + i) / 72057594037927936 ≠ 255 ∧ lim < i + ((ldw xs ys ((s + 1) * 4294967296 + i) / 4294967296) % 16777216 + 2))) : 10 = E := by
  rw [h1, wf_big h e]
  rcases hb with ⟨h, hb⟩ | ⟨h, hb⟩
  · rw [objW_1 h]; exact hb
  · rw [objW_2 h]; exact hb
theorem wE_bign (h1 : E = (wf W xs ys s lim i).1) (h : i < lim) (e : oErr W xs ys ((s + 1) * 4294967296 + i) = 0) (hb : (ldw xs ys ((s + 1) * 4294967296 + i) / 72057594037927936 = 255 ∧ lim < i + ((ldw xs ys ((s + 1) * 4294967296 + i) / 4294967296) % 16777216 + 1)) ∨ (ldw xs ys ((s + 1) * 4294967296 + i) / 72057594037927936 ≠ 255 ∧ lim < i + ((ldw xs ys ((s + 1) * 4294967296 + i) / 4294967296) % 16777216 + 2))) : ¬ E = 0 := by rw [← wE_big h1 h e hb]; decide
theorem wE_next {j : Int} (h1 : E = (wf W xs ys s lim i).1) (h : i < lim) (e : oErr W xs ys ((s + 1) * 4294967296 + i) = 0) (hj : (ldw xs ys ((s + 1) * 4294967296 + i) / 72057594037927936 = 255 ∧ j = i + ((ldw xs ys ((s + 1) * 4294967296 + i) / 4294967296) % 16777216 + 1)) ∨ (ldw xs ys ((s + 1) * 4294967296 + i) / 72057594037927936 ≠ 255 ∧ j = i + ((ldw xs ys ((s + 1) * 4294967296 + i) / 4294967296) % 16777216 + 2))) (hb : j ≤ lim) : E = (wf W xs ys s lim j).1 := by rw [h1, wf_next h e (objW_j hj) hb]
theorem wA_next {j : Int} (h2 : A = out ++ (wf W xs ys s lim i).2) (h : i < lim) (e : oErr W xs ys ((s + 1) * 4294967296 + i) = 0) (hj : (ldw xs ys ((s + 1) * 4294967296 + i) / 72057594037927936 = 255 ∧ j = i + ((ldw xs ys ((s + 1) * 4294967296 + i) / 4294967296) % 16777216 + 1)) ∨ (ldw xs ys ((s + 1) * 4294967296 + i) / 72057594037927936 ≠ 255 ∧ j = i + ((ldw xs ys ((s + 1) * 4294967296 + i) / 4294967296) % 16777216 + 2))) (hb : j ≤ lim) : A = (out ++ [((s + 1) * 4294967296 + i)]) ++ (wf W xs ys s lim j).2 := by rw [h2, wf_next h e (objW_j hj) hb]; simp
end

/-- The objects from a place on lie side by side up to the end. -/
def chain (W : Int) (xs ys : List Int) (s lim : Int) : Int → List Int → Prop
  | i, [] => i = lim
  | i, a :: l => a = (s + 1) * 4294967296 + i ∧ i < lim ∧ oErr W xs ys a = 0 ∧ i + objW xs ys a ≤ lim ∧ chain W xs ys s lim (i + objW xs ys a) l
theorem chain_of {W : Int} {xs ys : List Int} {s lim : Int} : ∀ (k : Nat) (i : Int), (lim - i).toNat ≤ k → i ≤ lim → (wf W xs ys s lim i).1 = 0 → chain W xs ys s lim i (wf W xs ys s lim i).2
  | k, i, hk, hi, h0 => by
    have hp := objW_pos xs ys ((s + 1) * 4294967296 + i)
    by_cases hl : lim ≤ i
    · rw [wf_end hl]; simp only [chain]; omega
    · by_cases he : oErr W xs ys ((s + 1) * 4294967296 + i) = 0
      · by_cases hb : lim < i + objW xs ys ((s + 1) * 4294967296 + i)
        · rw [wf_big (by omega) he hb] at h0; cases h0
        · have hn := wf_next (W := W) (xs := xs) (ys := ys) (s := s) (lim := lim) (i := i) (by omega) he rfl (by omega)
          rw [hn] at h0 ⊢
          simp only [chain]
          cases k with
          | zero => omega
          | succ k => exact ⟨trivial, by omega, he, by omega, chain_of k _ (by omega) (by omega) h0⟩
      · rw [wf_err (by omega) he] at h0; exact absurd h0 he
/-- Is a filler at an address? -/
def isFil (W : Int) (xs ys : List Int) (a : Int) : Bool := decide (oErr W xs ys a = 0 ∧ ldw xs ys a / 72057594037927936 = 255)
def nf (W : Int) (xs ys : List Int) (a : Int) : Bool := !isFil W xs ys a
/-- The objects that are no fillers. -/
def wO (W : Int) (xs ys : List Int) (s lim : Int) : List Int := (wA W xs ys s lim).filter (nf W xs ys)
theorem take_next {xs : List Int} {i : Int} (h0 : 0 ≤ i) (h : i < (xs.length : Int)) : xs.take (Int.toNat (i + 1)) = xs.take (Int.toNat i) ++ [ix xs i] := by
  have hn : (i + 1).toNat = i.toNat + 1 := by omega
  have h1 : i.toNat < xs.length := by omega
  rw [hn, List.take_add_one, List.getElem?_eq_getElem h1]
  simp [ix, h1]
theorem flt_step {p : Int → Bool} {xs : List Int} {i : Int} (h : (xs.take (Int.toNat i)).filter p = xs.take (Int.toNat i)) (h0 : 0 ≤ i) (hi : i < (xs.length : Int)) (hp : p (ix xs i) = true) : (xs.take (Int.toNat (i + 1))).filter p = xs.take (Int.toNat (i + 1)) := by
  rw [take_next h0 hi, List.filter_append, h]; simp [hp]
theorem flt_all {p : Int → Bool} {xs : List Int} {i : Int} (h : (xs.take (Int.toNat i)).filter p = xs.take (Int.toNat i)) (hi : (xs.length : Int) ≤ i) : xs.filter p = xs := by
  rwa [List.take_of_length_le (by omega)] at h
theorem ix_drop {xs ys : List Int} {j : Int} (h : xs.drop (Int.toNat j) = ys.drop (Int.toNat j)) (h0 : 0 ≤ j) : ix xs j = ix ys j := by
  have e := congrArg (fun l => l[0]?) h
  simp only [List.getElem?_drop, Nat.add_zero] at e
  unfold ix
  rw [List.getD_eq_getElem?_getD, List.getD_eq_getElem?_getD, e]
theorem drop_next {xs ys : List Int} {j : Int} (h : xs.drop (Int.toNat j) = ys.drop (Int.toNat j)) (h0 : 0 ≤ j) : xs.drop (Int.toNat (j + 1)) = ys.drop (Int.toNat (j + 1)) := by
  have e := congrArg (List.drop 1) h
  rw [List.drop_drop, List.drop_drop] at e
  have hn : (j + 1).toNat = j.toNat + 1 := by omega
  rw [hn]; exact e
theorem df_first {p : Int → Bool} {xs : List Int} {i : Int} (h : (xs.take (Int.toNat i)).filter p = xs.take (Int.toNat i)) (h0 : 0 ≤ i) (hi : i < (xs.length : Int)) (hp : p (ix xs i) = false) : xs.take (Int.toNat i) = (xs.take (Int.toNat (i + 1))).filter p := by
  rw [take_next h0 hi, List.filter_append, h]; simp [hp]
theorem df_skip {p : Int → Bool} {R xs : List Int} {i j : Int} (h : R.take (Int.toNat i) = (xs.take (Int.toNat j)).filter p) (hd : R.drop (Int.toNat j) = xs.drop (Int.toNat j)) (h0 : 0 ≤ j) (hj : j < (xs.length : Int)) (hp : p (ix R j) = false) : R.take (Int.toNat i) = (xs.take (Int.toNat (j + 1))).filter p := by
  rw [ix_drop hd h0] at hp
  rw [take_next h0 hj, List.filter_append, h]; simp [hp]
theorem df_keep {p : Int → Bool} {R xs : List Int} {i j : Int} (h : R.take (Int.toNat i) = (xs.take (Int.toNat j)).filter p) (hd : R.drop (Int.toNat j) = xs.drop (Int.toNat j)) (hi : 0 ≤ i) (hij : i < j) (hj : j < (xs.length : Int)) (hl : (R.length : Int) = (xs.length : Int)) (hp : p (ix R j) = true) :
    (st R i (ix R j)).take (Int.toNat (i + 1)) = (xs.take (Int.toNat (j + 1))).filter p := by
  have hv := ix_drop hd (by omega)
  rw [take_next (by omega) (by rw [len_st]; omega), ix_same _ hi (by omega) rfl]
  rw [take_next (by omega) hj, List.filter_append, ← h]
  have : (st R i (ix R j)).take (Int.toNat i) = R.take (Int.toNat i) := by
    unfold st; rw [List.take_set_of_le (Nat.le_refl _)]
  rw [this]
  rw [hv] at hp ⊢
  simp [hp]
theorem df_drop {R xs : List Int} {i j v : Int} (hd : R.drop (Int.toNat j) = xs.drop (Int.toNat j)) (hi : 0 ≤ i) (hij : i < j) : (st R i v).drop (Int.toNat (j + 1)) = xs.drop (Int.toNat (j + 1)) := by
  have : (st R i v).drop (Int.toNat (j + 1)) = R.drop (Int.toNat (j + 1)) := by
    unfold st; rw [List.drop_set_of_lt (by omega)]
  rw [this]; exact drop_next hd (by omega)
/-- A row whose words from a place on are cleared. -/
def clr (R : List Int) (i n : Nat) : List Int := R.take i ++ List.replicate n 0 ++ R.drop (i + n)
theorem clr_map {R : List Int} {i n : Nat} : (List.map (SV.int .u64) R).take i ++ List.replicate n (SV.int .u64 0) ++ (List.map (SV.int .u64) R).drop (i + n) = List.map (SV.int .u64) (clr R i n) := by
  simp [clr]
theorem len_clr (R : List Int) (i n : Nat) : R.length ≤ (clr R i n).length := by simp [clr]; omega
theorem df_end {p : Int → Bool} {R xs : List Int} {i j : Int} {n : Nat} (h : R.take (Int.toNat i) = (xs.take (Int.toNat j)).filter p) (hj : (xs.length : Int) ≤ j) (hi : i ≤ (R.length : Int)) :
    (clr R (Int.toNat i) n).take (Int.toNat i) = xs.filter p := by
  rw [List.take_of_length_le (show xs.length ≤ Int.toNat j by omega)] at h
  rw [← h, clr, List.append_assoc, List.take_append_of_le_length (by simp; omega), List.take_take, Nat.min_self]
end Go.Proofs.Ytjchmajamlehmaa.X
