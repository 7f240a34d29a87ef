/- Rows of numbers: a word, a word set; how they stand as symbolic values. -/
import Derived.Test.YtjchmajamlehmaaXw
namespace Go.Proofs.Ytjchmajamlehmaa.X
open Go Go.RowKit

/-- The word at a place (0 outside). -/
def ix (xs : List Int) (n : Int) : Int := xs.getD n.toNat 0
/-- The row with another word at a place. -/
def st (xs : List Int) (n v : Int) : List Int := xs.set n.toNat v
/-- Words. -/
def U64s (xs : List Int) : Prop := ∀ v ∈ xs, 0 ≤ v ∧ v ≤ 18446744073709551615
def I64s (xs : List Int) : Prop := ∀ v ∈ xs, -9223372036854775808 ≤ v ∧ v ≤ 9223372036854775807

theorem U64s.ix {xs : List Int} (h : U64s xs) (n : Int) : 0 ≤ ix xs n ∧ ix xs n ≤ 18446744073709551615 := by
  unfold X.ix
  rw [List.getD_eq_getElem?_getD]
  by_cases hn : n.toNat < xs.length
  · rw [List.getElem?_eq_getElem hn]; exact h _ (List.getElem_mem hn)
  · rw [List.getElem?_eq_none (by omega)]; simp
theorem I64s.ix {xs : List Int} (h : I64s xs) (n : Int) : -9223372036854775808 ≤ ix xs n ∧ ix xs n ≤ 9223372036854775807 := by
  unfold X.ix
  rw [List.getD_eq_getElem?_getD]
  by_cases hn : n.toNat < xs.length
  · rw [List.getElem?_eq_getElem hn]; exact h _ (List.getElem_mem hn)
  · rw [List.getElem?_eq_none (by omega)]; simp
theorem U64s.st {xs : List Int} (h : U64s xs) (n : Int) {v : Int} (hv : 0 ≤ v ∧ v ≤ 18446744073709551615) : U64s (st xs n v) := fun x hx => by
  rcases List.mem_or_eq_of_mem_set hx with h1 | rfl
  · exact h x h1
  · exact hv
theorem U64s.nil : U64s [] := fun _ h => by cases h
theorem U64s.cons {v : Int} {xs : List Int} (hv : 0 ≤ v ∧ v ≤ 18446744073709551615) (h : U64s xs) : U64s (v :: xs) := fun x hx => by
  rcases List.mem_cons.1 hx with rfl | hx
  · exact hv
  · exact h x hx
theorem U64s.append {xs ys : List Int} (h : U64s xs) (h' : U64s ys) : U64s (xs ++ ys) := fun x hx => by
  rcases List.mem_append.1 hx with hx | hx
  · exact h x hx
  · exact h' x hx
theorem U64s.rep (n : Nat) : U64s (List.replicate n 0) := fun x hx => by
  have := List.eq_of_mem_replicate hx; omega
theorem U64s.take {xs : List Int} (h : U64s xs) (n : Nat) : U64s (xs.take n) := fun x hx => h x (List.mem_of_mem_take hx)
theorem U64s.drop {xs : List Int} (h : U64s xs) (n : Nat) : U64s (xs.drop n) := fun x hx => h x (List.mem_of_mem_drop hx)
theorem len_st (xs : List Int) (n v : Int) : (st xs n v).length = xs.length := by simp [st]
theorem ix_same {xs : List Int} {n m : Int} (v : Int) (h0 : 0 ≤ n) (h1 : n < (xs.length : Int)) (e : m = n) : ix (st xs n v) m = v := by
  subst e
  unfold ix st
  have : m.toNat < xs.length := by omega
  simp [this]
theorem ix_other {xs : List Int} {n m : Int} (v : Int) (h0 : 0 ≤ n) (h2 : 0 ≤ m) (e : m ≠ n) : ix (st xs n v) m = ix xs m := by
  unfold ix st
  have : n.toNat ≠ m.toNat := by omega
  simp [List.getElem?_set_ne this]

theorem or_eq2 {a q b : Int} (k : Nat) (m : Int) (hm : m = ((2 ^ k : Nat) : Int)) (ha : a = q * m) (hq : 0 ≤ q) (hb : 0 ≤ b) (hbk : b < m) (hr : a + b ≤ 18446744073709551615) : IntKind.u64.wrap (BitVec.ofInt 64 a ||| BitVec.ofInt 64 b).toNat = a + b := by
  subst ha; exact or_eq k m hm hq hb hbk hr
theorem shr_le {a : Int} {n : Nat} (h : 0 ≤ a) : 0 ≤ a.fdiv (2 ^ n) ∧ a.fdiv (2 ^ n) ≤ a := by
  have hp : (0 : Int) < 2 ^ n := Int.pow_pos (by decide)
  rw [Int.fdiv_eq_ediv_of_nonneg _ (Int.le_of_lt hp)]
  exact ⟨Int.ediv_nonneg h (Int.le_of_lt hp), Int.ediv_le_self _ h⟩
/-- A word of a row, as an operation reads it. -/
theorem ix_ok {k : IntKind} {xs : List Int} {n : Int} (h0 : 0 ≤ n) (h1 : n < (xs.length : Int)) : 0 ≤ n ∧ n < ((xs.map (SV.int k)).length : Int) ∧ (xs.map (SV.int k))[n.toNat]? = some (.int k (ix xs n)) := by
  have h2 : n.toNat < xs.length := by omega
  refine ⟨h0, by simpa using h1, ?_⟩
  unfold ix
  simp [h2]
theorem len_map {k : IntKind} {xs : List Int} : ((xs.map (SV.int k)).length : Int) = (xs.length : Int) := by simp
theorem elem_map {k : IntKind} {xs : List Int} : ∀ y ∈ xs.map (SV.int k), ElemOk y := by
  intro y hy
  obtain ⟨n, _, rfl⟩ := List.mem_map.1 hy
  rfl
theorem ne_map {k : IntKind} {xs : List Int} (h : 0 < (xs.length : Int)) : xs.map (SV.int k) ≠ [] := by
  intro e
  have := congrArg List.length e
  simp at this; subst this; simp at h
theorem set_map {k : IntKind} {xs : List Int} {n v : Int} : (xs.map (SV.int k)).set n.toNat (.int k v) = (st xs n v).map (SV.int k) := by
  simp [st, List.map_set]
theorem append_map {k : IntKind} {xs ys : List Int} : xs.map (SV.int k) ++ ys.map (SV.int k) = (xs ++ ys).map (SV.int k) := by simp
theorem rep_map {k : IntKind} {n : Nat} {v : Int} : List.replicate n (SV.int k v) = (List.replicate n v).map (SV.int k) := by simp
theorem take_map {k : IntKind} {xs : List Int} {n : Nat} : (xs.map (SV.int k)).take n = (xs.take n).map (SV.int k) := by simp
theorem drop_map {k : IntKind} {xs : List Int} {n : Nat} : (xs.map (SV.int k)).drop n = (xs.drop n).map (SV.int k) := by simp

section
variable {rd : Option Nat} {P : Program} {N n0 : Nat} {ops : Array Oper} {mem : Mem} {nx : Nat}
/-- A number told otherwise. -/
theorem seti {i : Nat} {K : St → Prop} {s : St} (d : Nat) {k : IntKind} {x y : Int} (hd : fnd s.fr d = some (.int k x)) (e : x = y) (h : XOi rd P N n0 ops i K ⟨(d, .int k y) :: s.fr, s.mem, s.nx⟩) : XOi rd P N n0 ops i K s := by
  subst e
  refine xo_le (s' := ⟨(d, .int k x) :: s.fr, s.mem, s.nx⟩) (fun Γ ρ w a hn hok => ⟨ρ, Env.same_refl _ _, hn, ⟨hok.inv, hok.marks, hok.frame.size, fun t v hv => ?_⟩, fun _ h => h⟩) h
  rw [fnd_cons] at hv
  split at hv
  · rename_i e; subst e; cases hv; exact hok.frame.slot d _ hd
  · exact hok.frame.slot t v hv
theorem qseti {i : Nat} {K : Fr → Prop} {fr : Fr} (d : Nat) {k : IntKind} {x y : Int} (hd : fnd fr d = some (.int k x)) (e : x = y) (h : QOi P N ops mem nx i K ((d, .int k y) :: fr)) : QOi P N ops mem nx i K fr := by
  subst e
  obtain ⟨ss, fr2, h1, h2, h3⟩ := h
  have hsame : ∀ t, fnd ((d, .int k x) :: fr) t = fnd fr t := fun t => by
    rw [fnd_cons]
    split
    · rename_i e; subst e; exact hd.symm
    · rfl
  exact ⟨ss, fr2, h1.congr hsame, fun t s h => by rw [← lexFr_congr _ ss hsame t]; exact h2 t s h, h3⟩
/-- In a drawn region: a closure in place that reads one's own memory and leaves it alone. -/
theorem qinl {i : Nat} {K : Fr → Prop} {fr : Fr} {f : Nat} {args : List SV} {d : Option Nat} {sv : SV} (h : qcallAt ops fr i = some (f, args, d)) (hc : XCall P f args mem nx (fun s m n => s = sv ∧ m = mem ∧ n = nx))
    (hk : QOi P N ops mem nx (i + 1) K (putO fr d sv)) : QOi P N ops mem nx i K fr := by
  unfold qcallAt at h
  split at h
  · rename_i o ho
    split at h
    · rename_i f' args2 hg hca
      simp only [Option.some.injEq, Prod.mk.injEq] at h
      obtain ⟨rfl, rfl, rfl⟩ := h
      unfold QOi
      rw [drop_cons ho]
      exact q_callx hg hca hc hk
    · cases h
  · cases h
end
end Go.Proofs.Ytjchmajamlehmaa.X
