/- Maps that are sets of words; an object's pointers; which objects are sound. No program in sight. -/
import Derived.Test.YtlapjlbmhaalbaaXx3
import Derived.Test.YtlapjlbmhaalbaaXu1
import Derived.Test.YtlapjlbmhaalbaaXq4
import Derived.Test.YtlapjlbmhaalbaaXq10
namespace Go.Proofs.Ytlapjlbmhaalbaa.X
open Go Go.RowKit
set_option linter.unusedVariables false

/-- A set of words, as a map. -/
def mpT (xs : List Int) : List (Int × SV) := xs.map fun n => (n, .bool true)
def hasB (xs : List Int) (n : Int) : Bool := decide (n ∈ xs)
def addS (xs : List Int) (n : Int) : List Int := if n ∈ xs then xs else xs ++ [n]
theorem mp_nil : ([] : List (Int × SV)) = mpT [] := rfl
theorem mp_lk : ∀ (xs : List Int) (n : Int), lkE (mpT xs) n = if n ∈ xs then some (.bool true) else none
  | [], n => by simp [mpT, lkE]
  | m :: xs, n => by
    have ih := mp_lk xs n
    simp only [mpT] at ih
    simp only [mpT, List.map_cons, lkE, ih, List.mem_cons]
    by_cases h : m = n
    · subst h; simp
    · rw [if_neg h]; simp [Ne.symm h]
theorem mp_has {xs : List Int} {n : Int} : lkD (mpT xs) n (.bool false) = .bool (hasB xs n) := by
  unfold lkD hasB
  rw [mp_lk]
  by_cases h : n ∈ xs <;> simp [h]
theorem mp_st : ∀ (xs : List Int) (n : Int), stE (mpT xs) n (.bool true) = mpT (addS xs n)
  | [], n => by simp [mpT, stE, addS]
  | m :: xs, n => by
    have ih := mp_st xs n
    simp only [mpT] at ih
    simp only [mpT, List.map_cons, stE, ih, addS, List.mem_cons]
    by_cases h : m = n
    · subst h; simp
    · rw [if_neg h]
      by_cases h2 : n ∈ xs
      · simp [h2]
      · simp [h2, Ne.symm h]
theorem mp_add {xs : List Int} {n : Int} : Blk.mp true .u64 (stE (mpT xs) n (.bool true)) = .mp true .u64 (mpT (addS xs n)) := by rw [mp_st]
theorem mp_one {n : Int} : Blk.mp true .u64 (stE [] n (.bool true)) = .mp true .u64 (mpT [n]) := rfl
/-- What is in a set: nothing, and the first words of a row. -/
def inS (l : List Int) (i : Int) : List Int := (l.take i.toNat).foldl addS [0]
theorem inS_0 (l : List Int) : inS l 0 = [0] := rfl
theorem inS_next {l : List Int} {i : Int} (h0 : 0 ≤ i) (h : i < (l.length : Int)) : inS l (i + 1) = addS (inS l i) (ix l i) := by
  unfold inS
  rw [take_next h0 h, List.foldl_append]; rfl
theorem mp_in {l : List Int} {i : Int} (h0 : 0 ≤ i) (h : i < (l.length : Int)) : mpT (addS (inS l i) (ix l i)) = mpT (inS l (i + 1)) := by rw [inS_next h0 h]
theorem mem_addS {xs : List Int} {n v : Int} : v ∈ addS xs n ↔ v ∈ xs ∨ v = n := by
  unfold addS
  by_cases h : n ∈ xs
  · rw [if_pos h]
    exact ⟨.inl, fun h2 => h2.elim id (fun e => e ▸ h)⟩
  · simp [if_neg h]
theorem mem_fold {v : Int} : ∀ (l S : List Int), v ∈ l.foldl addS S ↔ v ∈ S ∨ v ∈ l
  | [], S => by simp
  | a :: l, S => by
    simp only [List.foldl_cons, List.mem_cons]
    rw [mem_fold l, mem_addS, or_assoc]
theorem mem_inS {l : List Int} {i v : Int} (h : (l.length : Int) ≤ i) : v ∈ inS l i ↔ v = 0 ∨ v ∈ l := by
  unfold inS
  rw [mem_fold, List.take_of_length_le (by omega)]; simp

/-- The words that an object's pointers are. -/
def ptrs (W : Int) (xs ys : List Int) (a : Int) : List Int :=
  if oErr W xs ys a = 0 then (ptL ((ldw xs ys a / 4294967296) % 16777216) (ldw xs ys a % 4294967296) (Int.toNat ((ldw xs ys a / 4294967296) % 16777216))).map fun i => ldw xs ys (a + 2 + i) else []
def okB (l : List Int) (v : Int) : Bool := v == 0 || decide (v ∈ l)
/-- Whether an object's first pointers lead to nothing, or to some of a row. -/
def ptB (W : Int) (xs ys l : List Int) (a k : Int) : Bool := ((ptrs W xs ys a).take k.toNat).all (okB l)
/-- Whether those of the first objects of a row do. -/
def snB (W : Int) (xs ys l : List Int) (i : Int) : Bool := (l.take i.toNat).all fun a => (ptrs W xs ys a).all (okB l)
section
variable {W : Int} {xs ys l : List Int} {a i k v : Int}
theorem ptrs_1 (h : oErr W xs ys a = 0) : ptrs W xs ys a = (ptL ((ldw xs ys a / 4294967296) % 16777216) (ldw xs ys a % 4294967296) (Int.toNat ((ldw xs ys a / 4294967296) % 16777216))).map fun i => ldw xs ys (a + 2 + i) := by unfold ptrs; rw [if_pos h]
theorem ptrs_0 (h : oErr W xs ys a ≠ 0) : ptrs W xs ys a = [] := by unfold ptrs; rw [if_neg h]
theorem ix_map {f : Int → Int} {xs : List Int} (h0 : 0 ≤ k) (h : k < (xs.length : Int)) : ix (xs.map f) k = f (ix xs k) := by
  have h2 : k.toNat < xs.length := by omega
  simp [ix, h2]
theorem take_all1 {p : Int → Bool} (h0 : 0 ≤ k) (h : k < (l.length : Int)) (h1 : (l.take k.toNat).all p = true) (h2 : p (ix l k) = true) : (l.take (k + 1).toNat).all p = true := by
  rw [take_next h0 h, List.all_append, h1]; simp [h2]
theorem all_at {p : Int → Bool} (h0 : 0 ≤ k) (h : k < (l.length : Int)) (h2 : p (ix l k) = false) : l.all p = false := by
  have h3 : k.toNat < l.length := by omega
  have h4 : ix l k ∈ l := by
    have : ix l k = l[k.toNat] := by simp [ix, h3]
    rw [this]; exact List.getElem_mem h3
  rw [List.all_eq_false]
  exact ⟨_, h4, by simp [h2]⟩
theorem ptB_0 : ptB W xs ys l a 0 = true := rfl
theorem snB_0 : snB W xs ys l 0 = true := rfl
theorem has_ok (h : hasB (inS l i) v = true) (hi : (l.length : Int) ≤ i) : okB l v = true := by
  unfold hasB at h; unfold okB
  have := (mem_inS hi).1 (of_decide_eq_true h)
  simpa using this
theorem has_no (h : hasB (inS l i) v = false) (hi : (l.length : Int) ≤ i) : okB l v = false := by
  unfold hasB at h; unfold okB
  have h2 : ¬ (v = 0 ∨ v ∈ l) := fun h3 => (of_decide_eq_false h) ((mem_inS hi).2 h3)
  simpa using h2
theorem ptB_next (ho : oErr W xs ys a = 0) (h0 : 0 ≤ k) (h : k < ((ptL ((ldw xs ys a / 4294967296) % 16777216) (ldw xs ys a % 4294967296) (Int.toNat ((ldw xs ys a / 4294967296) % 16777216))).length : Int)) (h1 : ptB W xs ys l a k = true)
    (h2 : okB l (ldw xs ys (a + 2 + ix (ptL ((ldw xs ys a / 4294967296) % 16777216) (ldw xs ys a % 4294967296) (Int.toNat ((ldw xs ys a / 4294967296) % 16777216))) k)) = true) : ptB W xs ys l a (k + 1) = true := by
  unfold ptB at *
  rw [ptrs_1 ho] at *
  exact take_all1 h0 (by simpa using h) h1 (by rw [ix_map h0 h]; exact h2)
theorem ptB_no (ho : oErr W xs ys a = 0) (h0 : 0 ≤ k) (h : k < ((ptL ((ldw xs ys a / 4294967296) % 16777216) (ldw xs ys a % 4294967296) (Int.toNat ((ldw xs ys a / 4294967296) % 16777216))).length : Int))
    (h2 : okB l (ldw xs ys (a + 2 + ix (ptL ((ldw xs ys a / 4294967296) % 16777216) (ldw xs ys a % 4294967296) (Int.toNat ((ldw xs ys a / 4294967296) % 16777216))) k)) = false) : (ptrs W xs ys a).all (okB l) = false := by
  rw [ptrs_1 ho]
  exact all_at h0 (by simpa using h) (by rw [ix_map h0 h]; exact h2)
theorem ptB_all1 (ho : oErr W xs ys a = 0) (h : ((ptL ((ldw xs ys a / 4294967296) % 16777216) (ldw xs ys a % 4294967296) (Int.toNat ((ldw xs ys a / 4294967296) % 16777216))).length : Int) ≤ k) (h1 : ptB W xs ys l a k = true) : (ptrs W xs ys a).all (okB l) = true := by
  unfold ptB at h1
  rwa [List.take_of_length_le (by rw [ptrs_1 ho]; simp; omega)] at h1
theorem ptB_all0 (ho : oErr W xs ys a ≠ 0) : (ptrs W xs ys a).all (okB l) = true := by rw [ptrs_0 ho]; rfl
theorem snB_next (h0 : 0 ≤ i) (h : i < (l.length : Int)) (h1 : snB W xs ys l i = true) (h2 : (ptrs W xs ys (ix l i)).all (okB l) = true) : snB W xs ys l (i + 1) = true := take_all1 h0 h h1 h2
theorem snB_no (h0 : 0 ≤ i) (h : i < (l.length : Int)) (h2 : (ptrs W xs ys (ix l i)).all (okB l) = false) : snB W xs ys l (l.length : Int) = false := by
  unfold snB
  rw [show (Int.toNat (l.length : Int)) = l.length by omega, List.take_length]
  exact all_at h0 h h2
theorem snB_end (h : (l.length : Int) ≤ i) (h1 : snB W xs ys l i = true) : snB W xs ys l (l.length : Int) = true := by
  unfold snB at *
  rw [show (Int.toNat (l.length : Int)) = l.length by omega, List.take_length]
  rwa [List.take_of_length_le (by omega)] at h1
end
def rlB (W : Int) (xs ys : List Int) (a : Int) : Bool := decide (oErr W xs ys a = 0 ∧ ldw xs ys a / 72057594037927936 ≠ 255)
section
variable {W : Int} {xs ys l : List Int} {a i k v : Int}
theorem hasB_0 (l : List Int) : hasB (l.take (Int.toNat 0)) a = false := by simp [hasB]
theorem hasB_next (h0 : 0 ≤ i) (h : i < (l.length : Int)) (h1 : hasB (l.take (Int.toNat i)) a = false) (h2 : ix l i ≠ a) : hasB (l.take (Int.toNat (i + 1))) a = false := by
  unfold hasB at *
  rw [take_next h0 h]
  simp only [decide_eq_false_iff_not, List.mem_append, List.mem_singleton] at *
  exact fun h3 => h3.elim h1 (fun e => h2 e.symm)
theorem hasB_at (h0 : 0 ≤ i) (h : i < (l.length : Int)) (e : ix l i = a) : hasB l a = true := by
  have h3 : i.toNat < l.length := by omega
  have h4 : ix l i = l[i.toNat] := by simp [ix, h3]
  unfold hasB
  rw [← e, h4]
  exact decide_eq_true (List.getElem_mem h3)
theorem hasB_end (h1 : hasB (l.take (Int.toNat i)) a = false) (h : (l.length : Int) ≤ i) : hasB l a = false := by
  rwa [List.take_of_length_le (by omega)] at h1
theorem ptL_m0 (l : Int) (k : Nat) : ptL l 0 k = [] := by
  cases h : ptL l 0 k with
  | nil => rfl
  | cons x r =>
    have := (ptL_in k x (by rw [h]; exact List.mem_cons_self)).1
    simp [isPtr] at this
theorem ptrs_le : ((ptrs W xs ys a).length : Int) ≤ 64 := by
  by_cases h : oErr W xs ys a = 0
  · rw [ptrs_1 h]
    obtain ⟨_, h2, _⟩ := oErr_ok W xs ys a h
    rcases h2 with ⟨_, _, _, h2⟩ | ⟨_, _, _, h2, _⟩
    · rw [h2, ptL_m0]; simp
    · have := ptL_len (l := (ldw xs ys a / 4294967296) % 16777216) (m := ldw xs ys a % 4294967296) (Int.toNat ((ldw xs ys a / 4294967296) % 16777216))
      simp only [List.length_map]; omega
  · rw [ptrs_0 h]; simp
theorem ptrs_u64 (h1 : U64s xs) (h2 : U64s ys) : U64s (ptrs W xs ys a) := by
  intro v hv
  unfold ptrs at hv
  split at hv
  · obtain ⟨i, _, rfl⟩ := List.mem_map.1 hv
    exact ldw_ok xs ys _ h1 h2
  · cases hv
theorem ptrs_tk : (((ptrs W xs ys a).take (Int.toNat k)).length : Int) ≤ 64 := by
  have := ptrs_le (W := W) (xs := xs) (ys := ys) (a := a)
  simp only [List.length_take]; omega
theorem ptrs_next (ho : oErr W xs ys a = 0) (h0 : 0 ≤ k) (h : k < ((ptL ((ldw xs ys a / 4294967296) % 16777216) (ldw xs ys a % 4294967296) (Int.toNat ((ldw xs ys a / 4294967296) % 16777216))).length : Int)) :
    (ptrs W xs ys a).take (Int.toNat k) ++ [ldw xs ys (a + 2 + ix (ptL ((ldw xs ys a / 4294967296) % 16777216) (ldw xs ys a % 4294967296) (Int.toNat ((ldw xs ys a / 4294967296) % 16777216))) k)] = (ptrs W xs ys a).take (Int.toNat (k + 1)) := by
  rw [take_next h0 (by rw [ptrs_1 ho]; simpa using h)]
  congr 2
  rw [ptrs_1 ho, ix_map h0 h]
theorem ptrs_end (ho : oErr W xs ys a = 0) (h : ((ptL ((ldw xs ys a / 4294967296) % 16777216) (ldw xs ys a % 4294967296) (Int.toNat ((ldw xs ys a / 4294967296) % 16777216))).length : Int) ≤ k) : (ptrs W xs ys a).take (Int.toNat k) = ptrs W xs ys a :=
  List.take_of_length_le (by rw [ptrs_1 ho]; simp; omega)
end
/-- Whether one of the first objects of a row leads out of it; and one of the first pointers of the next. -/
def ldB (W : Int) (xs ys l : List Int) (i : Int) : Bool := !snB W xs ys l i
def ldK (W : Int) (xs ys l : List Int) (i k : Int) : Bool := !(snB W xs ys l i && ptB W xs ys l (ix l i) k)
section
variable {W : Int} {xs ys l : List Int} {i k v : Int}
theorem ldK_0 : ldB W xs ys l i = ldK W xs ys l i 0 := by unfold ldB ldK; rw [ptB_0]; simp
theorem all_next {p : Int → Bool} (h0 : 0 ≤ k) (h : k < (l.length : Int)) : (l.take (Int.toNat (k + 1))).all p = ((l.take (Int.toNat k)).all p && p (ix l k)) := by
  rw [take_next h0 h, List.all_append]; simp
theorem ldK_next (h0 : 0 ≤ k) (h : k < ((ptrs W xs ys (ix l i)).length : Int)) : ldK W xs ys l i (k + 1) = (ldK W xs ys l i k || !okB l (ix (ptrs W xs ys (ix l i)) k)) := by
  unfold ldK ptB
  rw [all_next h0 h]
  cases snB W xs ys l i <;> cases (List.take (Int.toNat k) (ptrs W xs ys (ix l i))).all (okB l) <;> simp
theorem ldK_yes (h0 : 0 ≤ k) (h : k < ((ptrs W xs ys (ix l i)).length : Int)) (h1 : ldK W xs ys l i k = true) : true = ldK W xs ys l i (k + 1) := by rw [ldK_next h0 h, h1]; rfl
theorem ldK_zero (h0 : 0 ≤ k) (h : k < ((ptrs W xs ys (ix l i)).length : Int)) (h1 : ldK W xs ys l i k = false) (h2 : ix (ptrs W xs ys (ix l i)) k = 0) : false = ldK W xs ys l i (k + 1) := by
  rw [ldK_next h0 h, h1, h2]; simp [okB]
theorem ldK_has (h0 : 0 ≤ k) (h : k < ((ptrs W xs ys (ix l i)).length : Int)) (h1 : ldK W xs ys l i k = false) (h2 : ix (ptrs W xs ys (ix l i)) k ≠ 0) : (!hasB l (ix (ptrs W xs ys (ix l i)) k)) = ldK W xs ys l i (k + 1) := by
  rw [ldK_next h0 h, h1]; simp [okB, hasB, h2]
theorem ldB_next (h0 : 0 ≤ i) (h : i < (l.length : Int)) (hk : ((ptrs W xs ys (ix l i)).length : Int) ≤ k) : ldK W xs ys l i k = ldB W xs ys l (i + 1) := by
  unfold ldK ldB ptB
  rw [List.take_of_length_le (by omega)]
  unfold snB
  rw [all_next h0 h]
theorem ldB_end (h : (l.length : Int) ≤ i) : (snB W xs ys l (l.length : Int) = true ∧ ldB W xs ys l i = false) ∨ (snB W xs ys l (l.length : Int) = false ∧ ldB W xs ys l i = true) := by
  have e : snB W xs ys l i = snB W xs ys l (l.length : Int) := by
    unfold snB
    rw [List.take_of_length_le (by omega), List.take_of_length_le (by omega)]
  unfold ldB
  rw [e]
  cases snB W xs ys l (l.length : Int) <;> simp
theorem ldB_0 : false = ldB W xs ys l 0 := rfl
end
end Go.Proofs.Ytlapjlbmhaalbaa.X
