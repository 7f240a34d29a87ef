/- Rows of numbers: a word, a word set; how they stand as symbolic values. -/
import Derived.Test.YtjchmajamlehmaaXw
namespace Go.Proofs.Ytjchmajamlehmaa.X
open Go Go.RowKit

def ix (xs : List Int) (n : Int) : Int := xs.getD n.toNat 0
def st (xs : List Int) (n v : Int) : List Int := xs.set n.toNat v
def U64s (xs : List Int) : Prop := ∀ v ∈ xs, 0 ≤ v ∧ v ≤ 18446744073709551615
def I64s (xs : List Int) : Prop := ∀ v ∈ xs, -9223372036854775808 ≤ v ∧ v ≤ 9223372036854775807

theorem U64s.ix {xs : List Int} (h : U64s xs) (n : Int) : 0 ≤ ix xs n ∧ ix xs n ≤ 18446744073709551615 := by
  unfold X.ix
  rw [List.getD_eq_getElem?_getD]
  by_cases hn : n.toNat < xs.length
  · rw [List.getElem?_eq_getElem hn]; exact h _ (List.getElem_mem hn)
  · rw [List.getElem?_eq_none (by omega)]; simp
theorem I64s.ix {xs : List Int} (h : I64s xs) (n : Int) : -9223372036854775808 ≤ ix xs n ∧ ix xs n ≤ 9223372036854775807 := by
  unfold X.ix
  rw [List.getD_eq_getElem?_getD]
  by_cases hn : n.toNat < xs.length
  · rw [List.getElem?_eq_getElem hn]; exact h _ (List.getElem_mem hn)
  · rw [List.getElem?_eq_none (by omega)]; simp
theorem U64s.st {xs : List Int} (h : U64s xs) (n : Int) {v : Int} (hv : 0 ≤ v ∧ v ≤ 18446744073709551615) : U64s (st xs n v) := fun x hx => by
  rcases List.mem_or_eq_of_mem_set hx with h1 | rfl
  · exact h x h1
  · exact hv
theorem U64s.nil : U64s [] := fun _ h => by cases h
theorem U64s.cons {v : Int} {xs : List Int} (hv : 0 ≤ v ∧ v ≤ 18446744073709551615) (h : U64s xs) : U64s (v :: xs) := fun x hx => by
  rcases List.mem_cons.1 hx with rfl | hx
  · exact hv
  · exact h x hx
theorem U64s.append {xs ys : List Int} (h : U64s xs) (h' : U64s ys) : U64s (xs ++ ys) := fun x hx => by
  rcases List.mem_append.1 hx with hx | hx
  · exact h x hx
  · exact h' x hx
theorem U64s.rep (n : Nat) : U64s (List.replicate n 0) := fun x hx => by
  have := List.eq_of_mem_replicate hx; omega
theorem U64s.take {xs : List Int} (h : U64s xs) (n : Nat) : U64s (xs.take n) := fun x hx => h x (List.mem_of_mem_take hx)
theorem U64s.drop {xs : List Int} (h : U64s xs) (n : Nat) : U64s (xs.drop n) := fun x hx => h x (List.mem_of_mem_drop hx)
theorem len_st (xs : List Int) (n v : Int) : (st xs n v).length = xs.length := by simp [st]
theorem ix_same {xs : List Int} {n m : Int} (v : Int) (h0 : 0 ≤ n) (h1 : n < (xs.length : Int)) (e : m = n) : ix (st xs n v) m = v := by
  subst e
  unfold ix st
  have : m.toNat < xs.length := by omega
  simp [this]
theorem ix_other {xs : List Int} {n m : Int} (v : Int) (h0 : 0 ≤ n) (h2 : 0 ≤ m) (e : m ≠ n) : ix (st xs n v) m = ix xs m := by
  unfold ix st
  have : n.toNat ≠ m.toNat := by omega
  simp [List.getElem?_set_ne this]

theorem or_eq2 {a q b : Int} (k : Nat) (m : Int) (hm : m = ((2 ^ k : Nat) : Int)) (ha : a = q * m) (hq : 0 ≤ q) (hb : 0 ≤ b) (hbk : b < m) (hr : a + b ≤ 18446744073709551615) : IntKind.u64.wrap (BitVec.ofInt 64 a ||| BitVec.ofInt 64 b).toNat = a + b := by
  subst ha; exact or_eq k m hm hq hb hbk hr
theorem shr_le {a : Int} {n : Nat} (h : 0 ≤ a) : 0 ≤ a.fdiv (2 ^ n) ∧ a.fdiv (2 ^ n) ≤ a := by
  have hp : (0 : Int) < 2 ^ n := Int.pow_pos (by decide)
  rw [Int.fdiv_eq_ediv_of_nonneg _ (Int.le_of_lt hp)]
  exact ⟨Int.ediv_nonneg h (Int.le_of_lt hp), Int.ediv_le_self _ h⟩
theorem ix_ok {k : IntKind} {xs : List Int} {n : Int} (h0 : 0 ≤ n) (h1 : n < (xs.length : Int)) : 0 ≤ n ∧ n < ((xs.map (SV.int k)).length : Int) ∧ (xs.map (SV.int k))[n.toNat]? = some (.int k (ix xs n)) := by
  have h2 : n.toNat < xs.length := by omega
  refine ⟨h0, by simpa using h1, ?_⟩
  unfold ix
  simp [h2]
theorem elem_map {k : IntKind} {xs : List Int} : ∀ y ∈ xs.map (SV.int k), ElemOk y := by
  intro y hy
  obtain ⟨n, _, rfl⟩ := List.mem_map.1 hy
  rfl
theorem ne_map {k : IntKind} {xs : List Int} (h : 0 < (xs.length : Int)) : xs.map (SV.int k) ≠ [] := by
  intro e
  have := congrArg List.length e
  simp at this; subst this; simp at h
theorem rep_map {k : IntKind} {n : Nat} {v : Int} : List.replicate n (SV.int k v) = (List.replicate n v).map (SV.int k) := by simp

section
variable {rd : Option Nat} {P : Program} {N n0 : Nat} {ops : Array Oper} {mem : Mem} {nx : Nat}
theorem seti {i : Nat} {K : St → Prop} {s : St} (d : Nat) {k : IntKind} {x y : Int} (hd : fnd s.fr d = some (.int k x)) (e : x = y) (h : XOi rd P N n0 ops i K ⟨(d, .int k y) :: s.fr, s.mem, s.nx⟩) : XOi rd P N n0 ops i K s := by
  subst e
  refine xo_le (s' := ⟨(d, .int k x) :: s.fr, s.mem, s.nx⟩) (fun Γ ρ w a hn hok => ⟨ρ, Env.same_refl _ _, hn, ⟨hok.inv, hok.marks, hok.frame.size, fun t v hv => ?_⟩, fun _ h => h⟩) h
  rw [fnd_cons] at hv
  split at hv
  · rename_i e; subst e; cases hv; exact hok.frame.slot d _ hd
  · exact hok.frame.slot t v hv
theorem qinl {i : Nat} {K : Fr → Prop} {fr : Fr} {f : Nat} {args : List SV} {d : Option Nat} {sv : SV} (h : qcallAt ops fr i = some (f, args, d)) (hc : XCall P f args mem nx (fun s m n => s = sv ∧ m = mem ∧ n = nx))
    (hk : QOi P N ops mem nx (i + 1) K (putO fr d sv)) : QOi P N ops mem nx i K fr := by
  unfold qcallAt at h
  split at h
  · rename_i o ho
    split at h
    · rename_i f' args2 hg hca
      simp only [Option.some.injEq, Prod.mk.injEq] at h
      obtain ⟨rfl, rfl, rfl⟩ := h
      unfold QOi
      rw [drop_cons ho]
      exact q_callx hg hca hc hk
    · cases h
  · cases h
end
end Go.Proofs.Ytjchmajamlehmaa.X
namespace Go.Proofs.Ytjchmajamlehmaa.X
open Go Go.RowKit

def ldw (xs ys : List Int) (a : Int) : Int := if a / 4294967296 = 1 then ix xs (a % 4294967296) else ix ys (a % 4294967296)
def stx (xs : List Int) (a v : Int) : List Int := if a / 4294967296 = 1 then st xs (a % 4294967296) v else xs
def sty (ys : List Int) (a v : Int) : List Int := if a / 4294967296 = 1 then ys else st ys (a % 4294967296) v

theorem ldw_1 {xs ys : List Int} {a : Int} (h : a / 4294967296 = 1) : ldw xs ys a = ix xs (a % 4294967296) := by unfold ldw; rw [if_pos h]
theorem ldw_2 {xs ys : List Int} {a : Int} (h : a / 4294967296 ≠ 1) : ldw xs ys a = ix ys (a % 4294967296) := by unfold ldw; rw [if_neg h]
theorem stx_1 {xs : List Int} {a v : Int} (h : a / 4294967296 = 1) : stx xs a v = st xs (a % 4294967296) v := by unfold stx; rw [if_pos h]
theorem stx_2 {xs : List Int} {a v : Int} (h : a / 4294967296 ≠ 1) : stx xs a v = xs := by unfold stx; rw [if_neg h]
theorem sty_1 {xs : List Int} {a v : Int} (h : a / 4294967296 = 1) : sty xs a v = xs := by unfold sty; rw [if_pos h]
theorem sty_2 {xs : List Int} {a v : Int} (h : a / 4294967296 ≠ 1) : sty xs a v = st xs (a % 4294967296) v := by unfold sty; rw [if_neg h]
theorem len_stx (xs : List Int) (a v : Int) : (stx xs a v).length = xs.length := by unfold stx; split <;> simp [st]
theorem len_sty (xs : List Int) (a v : Int) : (sty xs a v).length = xs.length := by unfold sty; split <;> simp [st]
theorem U64s.stx {xs : List Int} (h : U64s xs) (a : Int) {v : Int} (hv : 0 ≤ v ∧ v ≤ 18446744073709551615) : U64s (stx xs a v) := by unfold X.stx; split; exact h.st _ hv; exact h
theorem U64s.sty {xs : List Int} (h : U64s xs) (a : Int) {v : Int} (hv : 0 ≤ v ∧ v ≤ 18446744073709551615) : U64s (sty xs a v) := by unfold X.sty; split; exact h; exact h.st _ hv
theorem U64s.ldw {xs ys : List Int} (h : U64s xs) (k : U64s ys) (a : Int) : 0 ≤ ldw xs ys a ∧ ldw xs ys a ≤ 18446744073709551615 := by unfold X.ldw; split; exact h.ix _; exact k.ix _

theorem ldw_same {xs ys : List Int} {a b : Int} (v : Int) (h1 : 1 ≤ a / 4294967296 ∧ a / 4294967296 ≤ 2) (hx : a % 4294967296 < (xs.length : Int)) (hy : a % 4294967296 < (ys.length : Int)) (e : b = a) : ldw (stx xs a v) (sty ys a v) b = v := by
  subst e
  by_cases h : b / 4294967296 = 1
  · rw [ldw_1 h, stx_1 h, ix_same v (by omega) hx rfl]
  · rw [ldw_2 h, sty_2 h, ix_same v (by omega) hy rfl]
theorem ldw_other {xs ys : List Int} {a b : Int} (v : Int) (ha : 1 ≤ a / 4294967296 ∧ a / 4294967296 ≤ 2) (hb : 1 ≤ b / 4294967296 ∧ b / 4294967296 ≤ 2) (e : b ≠ a) : ldw (stx xs a v) (sty ys a v) b = ldw xs ys b := by
  by_cases h : a / 4294967296 = 1
  · rw [stx_1 h, sty_1 h]
    by_cases k : b / 4294967296 = 1
    · rw [ldw_1 k, ldw_1 k, ix_other v (by omega) (by omega) (by omega)]
    · rw [ldw_2 k, ldw_2 k]
  · rw [stx_2 h, sty_2 h]
    by_cases k : b / 4294967296 = 1
    · rw [ldw_1 k, ldw_1 k]
    · rw [ldw_2 k, ldw_2 k, ix_other v (by omega) (by omega) (by omega)]

def zx (xs : List Int) (a : Int) : Nat → List Int
  | 0 => xs
  | k + 1 => stx (zx xs a k) (a + ((k : Int) + 1)) 0
def zy (ys : List Int) (a : Int) : Nat → List Int
  | 0 => ys
  | k + 1 => sty (zy ys a k) (a + ((k : Int) + 1)) 0
theorem len_zx (xs : List Int) (a : Int) : ∀ k, (zx xs a k).length = xs.length
  | 0 => rfl
  | k + 1 => by simp only [zx, len_stx]; exact len_zx xs a k
theorem len_zy (xs : List Int) (a : Int) : ∀ k, (zy xs a k).length = xs.length
  | 0 => rfl
  | k + 1 => by simp only [zy, len_sty]; exact len_zy xs a k
theorem U64s.zx {xs : List Int} (h : U64s xs) (a : Int) : ∀ k, U64s (zx xs a k)
  | 0 => h
  | k + 1 => (U64s.zx h a k).stx _ (by omega)
theorem U64s.zy {xs : List Int} (h : U64s xs) (a : Int) : ∀ k, U64s (zy xs a k)
  | 0 => h
  | k + 1 => (U64s.zy h a k).sty _ (by omega)
theorem ldw_zxo {xs ys : List Int} {a b : Int} (hb : 1 ≤ b / 4294967296 ∧ b / 4294967296 ≤ 2) : ∀ {k : Nat}, 1 ≤ a / 4294967296 ∧ (a + k) / 4294967296 ≤ 2 → (b ≤ a ∨ a + k < b) → ldw (zx xs a k) (zy ys a k) b = ldw xs ys b
  | 0, _, _ => rfl
  | k + 1, ha, h => by
    simp only [zx, zy]
    rw [ldw_other 0 (by omega) hb (by omega)]
    exact ldw_zxo hb (by omega) (by omega)
end Go.Proofs.Ytjchmajamlehmaa.X
