/- Heads: what is wrong with one, powers, pointers. No program in sight. -/
import Derived.Test.YtnfkgfibinimmaaXm3
namespace Go.Proofs.Ytnfkgfibinimmaa.X
open Go Go.RowKit
set_option linter.unusedVariables false

/-- What is wrong with a head. -/
def headErr (t l m : Int) : Int :=
  if (t ≠ 255 ∧ (t < 1 ∨ 200 < t)) ∨ l < 0 then 1
  else if t = 255 then (if 65535 < l then 3 else if m = 0 then 0 else 8)
  else if 16 < l then 3 else if m < 2 ^ l.toNat then 0 else 8
theorem pow16 {l : Int} (h0 : 0 ≤ l) (h1 : l ≤ 16) : (2 : Int) ^ l.toNat ≤ 65536 := by
  obtain ⟨k, rfl⟩ := Int.eq_ofNat_of_zero_le h0
  have hk : k ≤ 16 := by omega
  have : (2 : Nat) ^ k ≤ 2 ^ 16 := Nat.pow_le_pow_right (by decide) hk
  have e : ((2 : Int) ^ (Int.toNat (k : Int))) = ((2 ^ k : Nat) : Int) := by simp
  rw [e]; omega
theorem one_le_pow (n : Nat) : (1 : Int) ≤ 2 ^ n := by
  have : (0 : Int) < 2 ^ n := Int.pow_pos (by decide)
  omega
theorem ptr_eq {m i : Int} (h0 : 0 ≤ i) (h1 : i < 64) : m.fdiv (2 ^ min i.toNat IntKind.u64.bits) = m / 2 ^ i.toNat := by
  have e : min i.toNat IntKind.u64.bits = i.toNat := Nat.min_eq_left (by show i.toNat ≤ 64; omega)
  have hp : (0 : Int) < 2 ^ i.toNat := Int.pow_pos (by decide)
  rw [e, Int.fdiv_eq_ediv_of_nonneg _ (Int.le_of_lt hp)]
/-- Is a field a pointer? -/
def isPtr (l m i : Int) : Bool := decide (0 ≤ i ∧ i < l ∧ i < 64 ∧ (m / 2 ^ i.toNat) % 2 = 1)
theorem pow_step {i v : Int} (h0 : 0 ≤ i) (e : v = 2 ^ i.toNat) : v + v = 2 ^ (i + 1).toNat := by
  have : (i + 1).toNat = i.toNat + 1 := by omega
  rw [this, Int.pow_succ, ← e]; omega
theorem pow_mono {l : Int} (m : Nat) (h0 : 0 ≤ l) (h1 : l ≤ (m : Int)) : (2 : Int) ^ l.toNat ≤ ((2 ^ m : Nat) : Int) := by
  have : (2 : Nat) ^ l.toNat ≤ 2 ^ m := Nat.pow_le_pow_right (by decide) (by omega)
  have e : ((2 : Int) ^ l.toNat) = ((2 ^ l.toNat : Nat) : Int) := by simp
  rw [e]; exact Int.ofNat_le.2 this
theorem pow_b1 {i v : Int} (h0 : 0 ≤ i) (h1 : i ≤ 62) (e : v = 2 ^ i.toNat) : v + v ≤ 9223372036854775808 := by
  rw [pow_step h0 e]; exact pow_mono 63 (by omega) (by omega)
theorem pow_b2 {i v : Int} (h0 : 0 ≤ i) (h1 : i ≤ 62) (e : v = 2 ^ i.toNat) : i + 1 = 63 ∨ (v + v) * 4 ≤ 18446744073709551616 := by
  by_cases h : i + 1 = 63
  · exact .inl h
  · right
    rw [pow_step h0 e]
    have := pow_mono (l := i + 1) 62 (by omega) (by omega)
    have e2 : ((2 ^ 62 : Nat) : Int) = 4611686018427387904 := rfl
    rw [e2] at this; omega
theorem headErr_cases (t l m : Int) (hm : 0 ≤ m) : (((t = 255 ∧ 0 ≤ l ∧ l ≤ 65535 ∧ m = 0) ∨ (1 ≤ t ∧ t ≤ 200 ∧ 0 ≤ l ∧ l ≤ 16 ∧ m < 2 ^ l.toNat ∧ m < 65536)) ∧ headErr t l m = 0) ∨ (¬ ((t = 255 ∧ 0 ≤ l ∧ l ≤ 65535 ∧ m = 0) ∨ (1 ≤ t ∧ t ≤ 200 ∧ 0 ≤ l ∧ l ≤ 16 ∧ m < 2 ^ l.toNat ∧ m < 65536)) ∧ headErr t l m ≠ 0) := by
  have hp := @pow16 l
  unfold headErr
  by_cases h1 : (t ≠ 255 ∧ (t < 1 ∨ 200 < t)) ∨ l < 0
  · rw [if_pos h1]; right; refine ⟨by omega, by omega⟩
  · rw [if_neg h1]
    by_cases h2 : t = 255
    · rw [if_pos h2]
      by_cases h3 : 65535 < l
      · rw [if_pos h3]; right; refine ⟨by omega, by omega⟩
      · rw [if_neg h3]
        by_cases h4 : m = 0
        · rw [if_pos h4]; left; refine ⟨by omega, rfl⟩
        · rw [if_neg h4]; right; refine ⟨by omega, by omega⟩
    · rw [if_neg h2]
      by_cases h3 : 16 < l
      · rw [if_pos h3]; right; refine ⟨by omega, by omega⟩
      · rw [if_neg h3]
        by_cases h4 : m < 2 ^ l.toNat
        · rw [if_pos h4]; left; refine ⟨.inr ⟨by omega, by omega, by omega, by omega, h4, ?_⟩, rfl⟩
          have := hp (by omega) (by omega); omega
        · rw [if_neg h4]; right; refine ⟨by omega, by omega⟩
theorem headErr_ne {t l m : Int} (hm : 0 ≤ m) (h : ¬ ((t = 255 ∧ 0 ≤ l ∧ l ≤ 65535 ∧ m = 0) ∨ (1 ≤ t ∧ t ≤ 200 ∧ 0 ≤ l ∧ l ≤ 16 ∧ m < 2 ^ l.toNat ∧ m < 65536))) : headErr t l m ≠ 0 := by
  rcases headErr_cases t l m hm with h1 | h1
  · exact absurd h1.1 h
  · exact h1.2
theorem shr_zero {l m : Int} (h0 : 0 ≤ l) (h1 : l ≤ 16) (hm : 0 ≤ m) : m.fdiv (2 ^ min l.toNat IntKind.u64.bits) = 0 ↔ m < 2 ^ l.toNat := by
  have e : min l.toNat IntKind.u64.bits = l.toNat := Nat.min_eq_left (by show l.toNat ≤ 64; omega)
  have hp : (0 : Int) < 2 ^ l.toNat := Int.pow_pos (by decide)
  rw [e, Int.fdiv_eq_ediv_of_nonneg _ (Int.le_of_lt hp)]
  constructor
  · intro h
    have := Int.lt_ediv_add_one_mul_self m hp
    rw [h] at this; omega
  · intro h
    exact Int.ediv_eq_zero_of_lt hm h

end Go.Proofs.Ytnfkgfibinimmaa.X
