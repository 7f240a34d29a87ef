/- A space gone through from a place on: how many objects there are, or that it can't be. No program in sight. -/
import Derived.Test.YtlapjlbmhaalbaaXq8
import Derived.Test.YtlapjlbmhaalbaaXx3
import Derived.Test.YtlapjlbmhaalbaaXq6
namespace Go.Proofs.Ytlapjlbmhaalbaa.X
open Go Go.RowKit

/-- How many words an object has, by its head's word. -/
def nW (w : Int) : Int := if w / 72057594037927936 = 255 then (w / 4294967296) % 16777216 + 1 else (w / 4294967296) % 16777216 + 2
theorem nW_pos (w : Int) : 1 ≤ nW w := by unfold nW; split <;> omega
def gy (W : Int) (xs ys : List Int) (s b : Int) : Nat → Int → Int
  | 0, p => if p = b then 0 else -1
  | f + 1, p => if p = b then 0 else if oErr W xs ys ((s + 1) * 4294967296 + p) ≠ 0 ∨ b < p + nW (ldw xs ys ((s + 1) * 4294967296 + p)) then -1
    else if gy W xs ys s b f (p + nW (ldw xs ys ((s + 1) * 4294967296 + p))) = -1 then -1 else gy W xs ys s b f (p + nW (ldw xs ys ((s + 1) * 4294967296 + p))) + 1
def gry (W : Int) (xs ys : List Int) (s b p : Int) : Int := if p < 0 ∨ b < p then -1 else gy W xs ys s b (b - p).toNat p
section
variable {W : Int} {xs ys us vs : List Int} {s b p q : Int}
theorem gy_ge : ∀ (f : Nat) (p : Int), -1 ≤ gy W xs ys s b f p
  | 0, p => by unfold gy; split <;> omega
  | f + 1, p => by
    have := gy_ge f (p + nW (ldw xs ys ((s + 1) * 4294967296 + p)))
    unfold gy
    split
    · omega
    · split
      · omega
      · split <;> omega
theorem gy_fuel : ∀ (f g : Nat) (p : Int), p ≤ b → (b - p).toNat ≤ f → (b - p).toNat ≤ g → gy W xs ys s b f p = gy W xs ys s b g p
  | 0, 0, p, _, _, _ => rfl
  | 0, g + 1, p, h, hf, _ => by
    have : p = b := by omega
    unfold gy; rw [if_pos this, if_pos this]
  | f + 1, 0, p, h, _, hg => by
    have : p = b := by omega
    unfold gy; rw [if_pos this, if_pos this]
  | f + 1, g + 1, p, h, hf, hg => by
    unfold gy
    have hn := nW_pos (ldw xs ys ((s + 1) * 4294967296 + p))
    by_cases e : p = b
    · rw [if_pos e, if_pos e]
    · rw [if_neg e, if_neg e]
      by_cases k : oErr W xs ys ((s + 1) * 4294967296 + p) ≠ 0 ∨ b < p + nW (ldw xs ys ((s + 1) * 4294967296 + p))
      · rw [if_pos k, if_pos k]
      · rw [if_neg k, if_neg k, gy_fuel f g (p + nW (ldw xs ys ((s + 1) * 4294967296 + p))) (by omega) (by omega) (by omega)]
theorem gry_ge (W : Int) (xs ys : List Int) (s b p : Int) : -1 ≤ gry W xs ys s b p := by
  unfold gry; split
  · omega
  · exact gy_ge _ _
theorem gry_out (h : p < 0 ∨ b < p) : gry W xs ys s b p = -1 := by unfold gry; rw [if_pos h]
theorem gry_end (h0 : 0 ≤ p) (h : p = b) : gry W xs ys s b p = 0 := by
  unfold gry; rw [if_neg (by omega)]
  have : (b - p).toNat = 0 := by omega
  rw [this]; unfold gy; rw [if_pos h]
theorem gry_step (h0 : 0 ≤ p) (h : p < b) : gry W xs ys s b p = if oErr W xs ys ((s + 1) * 4294967296 + p) ≠ 0 ∨ b < p + nW (ldw xs ys ((s + 1) * 4294967296 + p)) then -1
    else if gry W xs ys s b (p + nW (ldw xs ys ((s + 1) * 4294967296 + p))) = -1 then -1 else gry W xs ys s b (p + nW (ldw xs ys ((s + 1) * 4294967296 + p))) + 1 := by
  have hn := nW_pos (ldw xs ys ((s + 1) * 4294967296 + p))
  conv => lhs; unfold gry
  rw [if_neg (by omega)]
  obtain ⟨f, hf⟩ : ∃ f, (b - p).toNat = f + 1 := ⟨(b - p).toNat - 1, by omega⟩
  rw [hf]
  unfold gy
  rw [if_neg (by omega)]
  by_cases k : oErr W xs ys ((s + 1) * 4294967296 + p) ≠ 0 ∨ b < p + nW (ldw xs ys ((s + 1) * 4294967296 + p))
  · rw [if_pos k, if_pos k]
  · rw [if_neg k, if_neg k]
    have e : gy W xs ys s b f (p + nW (ldw xs ys ((s + 1) * 4294967296 + p))) = gry W xs ys s b (p + nW (ldw xs ys ((s + 1) * 4294967296 + p))) := by
      unfold gry; rw [if_neg (by omega)]
      exact gy_fuel _ _ _ (by omega) (by omega) (by omega)
    rw [e]
theorem gry_bad (h0 : 0 ≤ p) (h : p < b) (e : oErr W xs ys ((s + 1) * 4294967296 + p) ≠ 0 ∨ b < p + nW (ldw xs ys ((s + 1) * 4294967296 + p))) : gry W xs ys s b p = -1 := by rw [gry_step h0 h, if_pos e]
theorem gry_next (h0 : 0 ≤ p) (h : p < b) (e : oErr W xs ys ((s + 1) * 4294967296 + p) = 0) (hq : q = p + nW (ldw xs ys ((s + 1) * 4294967296 + p))) (hb : q ≤ b) :
    (gry W xs ys s b q = -1 ∧ gry W xs ys s b p = -1) ∨ (0 ≤ gry W xs ys s b q ∧ gry W xs ys s b p = gry W xs ys s b q + 1) := by
  subst hq
  have hg := gry_ge W xs ys s b (p + nW (ldw xs ys ((s + 1) * 4294967296 + p)))
  rw [gry_step h0 h, if_neg (by omega)]
  by_cases k : gry W xs ys s b (p + nW (ldw xs ys ((s + 1) * 4294967296 + p))) = -1
  · rw [if_pos k]; exact .inl ⟨k, rfl⟩
  · rw [if_neg k]; exact .inr ⟨by omega, rfl⟩
theorem gy_cong : ∀ (f : Nat) (p : Int), (∀ o, p ≤ o → o < b → ldw xs ys ((s + 1) * 4294967296 + o) = ldw us vs ((s + 1) * 4294967296 + o)) → gy W xs ys s b f p = gy W us vs s b f p
  | 0, p, _ => rfl
  | f + 1, p, h => by
    unfold gy
    by_cases e : p = b
    · rw [if_pos e, if_pos e]
    · by_cases hl : p < b
      · have h1 := h p (by omega) hl
        have hn := nW_pos (ldw us vs ((s + 1) * 4294967296 + p))
        rw [if_neg e, if_neg e, h1, oErr_cong h1, gy_cong f (p + nW (ldw us vs ((s + 1) * 4294967296 + p))) (fun o h2 h3 => h o (by omega) h3)]
      · have hn := nW_pos (ldw us vs ((s + 1) * 4294967296 + p))
        have hn' := nW_pos (ldw xs ys ((s + 1) * 4294967296 + p))
        rw [if_neg e, if_neg e, if_pos (.inr (by omega)), if_pos (.inr (by omega))]
theorem gry_cong (h : ∀ o, p ≤ o → o < b → ldw xs ys ((s + 1) * 4294967296 + o) = ldw us vs ((s + 1) * 4294967296 + o)) : gry W xs ys s b p = gry W us vs s b p := by
  unfold gry; split
  · rfl
  · exact gy_cong _ _ h
theorem gry_b1 (h0 : 0 ≤ p) (h : p < b) (e : oErr W xs ys ((s + 1) * 4294967296 + p) ≠ 0) : gry W xs ys s b p = -1 := gry_bad h0 h (.inl e)
theorem gry_b2 (h0 : 0 ≤ p) (h : p < b) (t : ldw xs ys ((s + 1) * 4294967296 + p) / 72057594037927936 = 255) (e : b < p + ((ldw xs ys ((s + 1) * 4294967296 + p) / 4294967296) % 16777216 + 1)) : gry W xs ys s b p = -1 := gry_bad h0 h (.inr (by unfold nW; rw [if_pos t]; exact e))
theorem gry_b3 (h0 : 0 ≤ p) (h : p < b) (t : ldw xs ys ((s + 1) * 4294967296 + p) / 72057594037927936 ≠ 255) (e : b < p + ((ldw xs ys ((s + 1) * 4294967296 + p) / 4294967296) % 16777216 + 2)) : gry W xs ys s b p = -1 := gry_bad h0 h (.inr (by unfold nW; rw [if_neg t]; exact e))
theorem gry_n2 (h0 : 0 ≤ p) (h : p < b) (e : oErr W xs ys ((s + 1) * 4294967296 + p) = 0) (t : ldw xs ys ((s + 1) * 4294967296 + p) / 72057594037927936 = 255) (hq : q = p + ((ldw xs ys ((s + 1) * 4294967296 + p) / 4294967296) % 16777216 + 1)) (hb : q ≤ b) :
    (gry W xs ys s b q = -1 ∧ gry W xs ys s b p = -1) ∨ (0 ≤ gry W xs ys s b q ∧ gry W xs ys s b p = gry W xs ys s b q + 1) := gry_next h0 h e (by unfold nW; rw [if_pos t]; exact hq) hb
theorem gry_n3 (h0 : 0 ≤ p) (h : p < b) (e : oErr W xs ys ((s + 1) * 4294967296 + p) = 0) (t : ldw xs ys ((s + 1) * 4294967296 + p) / 72057594037927936 ≠ 255) (hq : q = p + ((ldw xs ys ((s + 1) * 4294967296 + p) / 4294967296) % 16777216 + 2)) (hb : q ≤ b) :
    (gry W xs ys s b q = -1 ∧ gry W xs ys s b p = -1) ∨ (0 ≤ gry W xs ys s b q ∧ gry W xs ys s b p = gry W xs ys s b q + 1) := gry_next h0 h e (by unfold nW; rw [if_neg t]; exact hq) hb
end

/-- An object's words, by its tag and its length. -/
def hN (t l : Int) : Int := if t = 255 then l + 1 else l + 2
theorem hN_1 {t l : Int} (h : t = 255) : l + 1 = hN t l := by unfold hN; rw [if_pos h]
theorem hN_2 {t l : Int} (h : ¬ (t = 255)) : l + 2 = hN t l := by unfold hN; rw [if_neg h]
theorem hN_cases (t l : Int) : (t = 255 ∧ hN t l = l + 1) ∨ (t ≠ 255 ∧ hN t l = l + 2) := by
  unfold hN
  by_cases h : t = 255
  · rw [if_pos h]; exact .inl ⟨h, rfl⟩
  · rw [if_neg h]; exact .inr ⟨h, rfl⟩
theorem nW_cases (w : Int) : (w / 72057594037927936 = 255 ∧ nW w = (w / 4294967296) % 16777216 + 1) ∨ (w / 72057594037927936 ≠ 255 ∧ nW w = (w / 4294967296) % 16777216 + 2) := by
  unfold nW
  by_cases h : w / 72057594037927936 = 255
  · rw [if_pos h]; exact .inl ⟨h, rfl⟩
  · rw [if_neg h]; exact .inr ⟨h, rfl⟩
/-- The words of a space from a place on, up to another, are as they were. -/
structure Kp (xs ys us vs : List Int) (s b lo : Int) : Prop where
  each : ∀ j, lo ≤ j → j < b → ldw us vs ((s + 1) * 4294967296 + j) = ldw xs ys ((s + 1) * 4294967296 + j)
section
variable {W : Int} {xs ys us vs : List Int} {s b b1 b2 lo d v : Int}
theorem kp_0 : b1 ≠ b ∨ Kp xs ys xs ys s b lo := .inr ⟨fun _ _ _ => rfl⟩
theorem kp_set (h : b1 ≠ b ∨ Kp xs ys us vs s b lo) (hs : s = 0 ∨ s = 1) (hd : 1 ≤ d / 4294967296 ∧ d / 4294967296 ≤ 2) (hb : 0 ≤ lo ∧ b ≤ 4096) (hlo : d < (s + 1) * 4294967296 + lo) : b1 ≠ b ∨ Kp xs ys (stx us d v) (sty vs d v) s b lo := by
  rcases h with h | h
  · exact .inl h
  · refine .inr ⟨fun j h1 h2 => ?_⟩
    rw [ldw_other v hd (by omega) (by omega)]
    exact h.each j h1 h2
theorem kp_new (h : b1 ≠ b) : b1 ≠ b ∨ Kp xs ys us vs s b lo := .inl h
theorem kp_gry (h : b1 ≠ b ∨ Kp xs ys us vs s b lo) : b1 ≠ b ∨ gry W us vs s b lo = gry W xs ys s b lo := h.imp id fun h => gry_cong h.each
theorem isPtr_0 (l i : Int) : isPtr l 0 i = false := by
  unfold isPtr
  apply decide_eq_false
  rintro ⟨_, _, _, h⟩
  simp at h
theorem ptl_ix {l m t k : Int} (h0 : 0 ≤ k) (hk : k ≤ ((ptL l m (Int.toNat l)).length : Int)) (ht : t = 255 → m = 0) : k = ((ptL l m (Int.toNat l)).length : Int) ∨ (k < ((ptL l m (Int.toNat l)).length : Int) ∧ 0 ≤ ix (ptL l m (Int.toNat l)) k ∧ ix (ptL l m (Int.toNat l)) k < l ∧ t ≠ 255) := by
  by_cases e : k = ((ptL l m (Int.toNat l)).length : Int)
  · exact .inl e
  · right
    have hlt : k.toNat < (ptL l m (Int.toNat l)).length := by omega
    have hm : ix (ptL l m (Int.toNat l)) k ∈ ptL l m (Int.toNat l) := by
      unfold ix
      simp [hlt]
    obtain ⟨h1, h2, h3⟩ := ptL_in _ _ hm
    refine ⟨by omega, h2, by omega, fun e => ?_⟩
    rw [ht e, isPtr_0] at h1
    cases h1
theorem ptL_i64 (l m : Int) (hl : 0 ≤ l ∧ l ≤ 16777216) : I64s (ptL l m (Int.toNat l)) := fun x hx => by
  obtain ⟨_, h2, h3⟩ := ptL_in _ _ hx
  omega
end

theorem Kp.rfl {xs ys : List Int} {s b lo : Int} : Kp xs ys xs ys s b lo := ⟨fun _ _ _ => Eq.refl _⟩
section
variable {W : Int} {xs ys us vs us2 vs2 : List Int} {s b b2 lo lo2 d v a n : Int}
theorem Kp.trans (h : Kp xs ys us vs s b lo) (k : Kp us vs us2 vs2 s b2 lo2) (hb : b ≤ b2) (hl : lo2 ≤ lo) : Kp xs ys us2 vs2 s b lo :=
  ⟨fun j h1 h2 => (k.each j (by omega) (by omega)).trans (h.each j h1 h2)⟩
theorem Kp.set (h : Kp xs ys us vs s b lo) (hs : s = 0 ∨ s = 1) (hd : 1 ≤ d / 4294967296 ∧ d / 4294967296 ≤ 2) (hb : 0 ≤ lo ∧ b ≤ 4096) (hlo : d < (s + 1) * 4294967296 + lo) : Kp xs ys (stx us d v) (sty vs d v) s b lo :=
  ⟨fun j h1 h2 => by rw [ldw_other v hd (by omega) (by omega)]; exact h.each j h1 h2⟩
theorem Kp.gry (h : Kp xs ys us vs s b lo) : gry W us vs s b lo = gry W xs ys s b lo := gry_cong h.each
theorem kp_tw (h1 : (xs.length : Int) = W) (h2 : (ys.length : Int) = W) (hn : 2 ≤ n) (ha : 1 ≤ a / 4294967296 ∧ a / 4294967296 ≤ 2 ∧ a % 4294967296 + n ≤ W) (hs : s = 0 ∨ s = 1) (hb : 0 ≤ b) (hf : b + n ≤ W) (hW : W ≤ 4096) (ho : ¬ (a / 4294967296 - 1 = s)) :
    Kp xs ys (tX xs ys a ((s + 1) * 4294967296 + b) n) (tY xs ys a ((s + 1) * 4294967296 + b) n) s b 0 := by
  refine ⟨fun j h3 h4 => ?_⟩
  rcases tw_d (d := (s + 1) * 4294967296 + j) h1 h2 hn ha (show 1 ≤ ((s + 1) * 4294967296 + b) / 4294967296 ∧ ((s + 1) * 4294967296 + b) / 4294967296 ≤ 2 ∧ ((s + 1) * 4294967296 + b) % 4294967296 + n ≤ W by omega) hW (by omega) with hz | hz | hz
  · exact hz
  · exfalso; omega
  · exfalso; omega
theorem gy_le : ∀ (f : Nat) (p : Int), gy W xs ys s b f p ≤ (f : Int)
  | 0, p => by unfold gy; split <;> omega
  | f + 1, p => by
    have := gy_le f (p + nW (ldw xs ys ((s + 1) * 4294967296 + p)))
    unfold gy
    split
    · omega
    · split
      · omega
      · split <;> omega
theorem gry_le (W : Int) (xs ys : List Int) (s b p : Int) (hb : 0 ≤ b ∧ b ≤ 4096) : X.gry W xs ys s b p ≤ 4096 := by
  unfold X.gry
  split
  · omega
  · have := gy_le (W := W) (xs := xs) (ys := ys) (s := s) (b := b) (b - p).toNat p
    omega
theorem gry_at (W : Int) (xs ys : List Int) (s b c p : Int) : b ≠ c ∨ X.gry W xs ys s b p = X.gry W xs ys s c p := by
  by_cases e : b = c
  · exact .inr (by rw [e])
  · exact .inl e
end
end Go.Proofs.Ytlapjlbmhaalbaa.X
