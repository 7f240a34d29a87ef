/- Rows of structs and rows of rows: how they stand as symbolic values; whether a slice is nil. -/
import Derived.Test.YtjchmajamlehmaaXm3
namespace Go.Proofs.Ytjchmajamlehmaa.X
open Go Go.RowKit

/-- An entry: whose field, which one. -/
abbrev Ent := Int × Int
def entS (e : Ent) : SV := .agg [.int .u64 e.1, .int .i64 e.2]
def logS (l : List Ent) : SV := .sl false 2 (l.map entS)
def eO (xs : List Ent) (n : Int) : Int := (xs.getD n.toNat (0, 0)).1
def eF (xs : List Ent) (n : Int) : Int := (xs.getD n.toNat (0, 0)).2
def lg (L : List (List Ent)) (n : Int) : List Ent := L.getD n.toNat []
def stl (L : List (List Ent)) (n : Int) (x : List Ent) : List (List Ent) := L.set n.toNat x
def Ents (xs : List Ent) : Prop := ∀ e ∈ xs, (0 ≤ e.1 ∧ e.1 ≤ 18446744073709551615) ∧ (-9223372036854775808 ≤ e.2 ∧ e.2 ≤ 9223372036854775807)
def Lgs (L : List (List Ent)) : Prop := ∀ x ∈ L, Ents x ∧ (x.length : Int) ≤ 8796093022208

section
variable {α : Type} {f : α → SV} {xs ys : List α}
theorem mapf_app : xs.map f ++ ys.map f = (xs ++ ys).map f := by simp
theorem mapf_set {n : Nat} {v : α} : (xs.map f).set n (f v) = (xs.set n v).map f := by simp [List.map_set]
theorem mapf_take {n : Nat} : (xs.map f).take n = (xs.take n).map f := by simp
theorem mapf_drop {n : Nat} : (xs.map f).drop n = (xs.drop n).map f := by simp
theorem mapf_cut {n m : Nat} : ((xs.map f).take n).drop m = ((xs.take n).drop m).map f := by simp
theorem mapf_ne (h : 0 < (xs.length : Int)) : xs.map f ≠ [] := by
  intro e
  have := congrArg List.length e
  simp at this; subst this; simp at h
theorem mapf_nil (h : xs.map f = []) : (xs.length : Int) = 0 := by simpa using congrArg List.length h
theorem mapf_emp (h : (xs.length : Int) = 0) : xs.map f = [] := by
  have : xs = [] := List.eq_nil_of_length_eq_zero (by omega)
  simp [this]
end
theorem elem_ent {xs : List Ent} : ∀ y ∈ xs.map entS, ElemOk y := by
  intro y hy
  obtain ⟨n, _, rfl⟩ := List.mem_map.1 hy
  rfl
theorem elem_log {xs : List (List Ent)} : ∀ y ∈ xs.map logS, ElemOk y := by
  intro y hy
  obtain ⟨n, _, rfl⟩ := List.mem_map.1 hy
  rfl
theorem ix_ent {xs : List Ent} {n : Int} (h0 : 0 ≤ n) (h1 : n < (xs.length : Int)) : 0 ≤ n ∧ n < ((xs.map entS).length : Int) ∧ (xs.map entS)[n.toNat]? = some (.agg [.int .u64 (eO xs n), .int .i64 (eF xs n)]) := by
  have h2 : n.toNat < xs.length := by omega
  refine ⟨h0, by simpa using h1, ?_⟩
  simp [h2, entS, eO, eF]
theorem ix_log {xs : List (List Ent)} {n : Int} (h0 : 0 ≤ n) (h1 : n < (xs.length : Int)) : 0 ≤ n ∧ n < ((xs.map logS).length : Int) ∧ (xs.map logS)[n.toNat]? = some (.sl false 2 (List.map entS (lg xs n))) := by
  have h2 : n.toNat < xs.length := by omega
  refine ⟨h0, by simpa using h1, ?_⟩
  simp [h2, logS, lg]
theorem Ents.at {xs : List Ent} (h : Ents xs) (n : Int) : (0 ≤ eO xs n ∧ eO xs n ≤ 18446744073709551615) ∧ (-9223372036854775808 ≤ eF xs n ∧ eF xs n ≤ 9223372036854775807) := by
  unfold eO eF
  rw [List.getD_eq_getElem?_getD]
  by_cases hn : n.toNat < xs.length
  · rw [List.getElem?_eq_getElem hn]; exact h _ (List.getElem_mem hn)
  · rw [List.getElem?_eq_none (by omega)]; simp
theorem Lgs.lg {L : List (List Ent)} (h : Lgs L) (n : Int) : Ents (lg L n) ∧ ((lg L n).length : Int) ≤ 8796093022208 := by
  unfold X.lg
  rw [List.getD_eq_getElem?_getD]
  by_cases hn : n.toNat < L.length
  · rw [List.getElem?_eq_getElem hn]; exact h _ (List.getElem_mem hn)
  · rw [List.getElem?_eq_none (by omega)]; exact ⟨fun _ h => (by cases h), by simp⟩
theorem Ents.app {xs ys : List Ent} (h : Ents xs) (k : Ents ys) : Ents (xs ++ ys) := fun e he => (List.mem_append.1 he).elim (h e) (k e)
theorem Ents.drop {xs : List Ent} (h : Ents xs) (n : Nat) : Ents (xs.drop n) := fun e he => h e (List.mem_of_mem_drop he)
theorem Ents.one {a i : Int} (h : 0 ≤ a ∧ a ≤ 18446744073709551615) (k : -9223372036854775808 ≤ i ∧ i ≤ 9223372036854775807) : Ents [(a, i)] := fun e he => by
  simp only [List.mem_singleton] at he; subst he; exact ⟨h, k⟩
theorem Lgs.stl {L : List (List Ent)} (h : Lgs L) (n : Int) {x : List Ent} (k : Ents x) (k2 : (x.length : Int) ≤ 8796093022208) : Lgs (stl L n x) := fun y hy => by
  rcases List.mem_or_eq_of_mem_set hy with h1 | rfl
  · exact h y h1
  · exact ⟨k, k2⟩
theorem Lgs.two {x y : List Ent} (h : Ents x) (k : Ents y) (h2 : (x.length : Int) ≤ 8796093022208) (k2 : (y.length : Int) ≤ 8796093022208) : Lgs [x, y] := fun z hz => by
  simp only [List.mem_cons, List.not_mem_nil, or_false] at hz
  rcases hz with rfl | rfl
  · exact ⟨h, h2⟩
  · exact ⟨k, k2⟩
theorem len_stl (L : List (List Ent)) (n : Int) (x : List Ent) : (stl L n x).length = L.length := by simp [stl]

section
variable {rd : Option Nat} {P : Program} {T : Tab} {N n0 : Nat} {ops : Array Oper} {mem : Mem} {nx : Nat}
/-- A block told otherwise. -/
theorem setb {i : Nat} {K : St → Prop} {s : St} (r : Nat) {B B' : Blk} (hd : fnd s.mem r = some B) (e : B = B') (h : XOi rd P N n0 ops i K ⟨s.fr, upd s.mem r B', s.nx⟩) : XOi rd P N n0 ops i K s := by
  subst e
  have hsame : ∀ t, fnd (upd s.mem r B) t = fnd s.mem t := fun t => by
    rw [fnd_upd s.mem r t _ (by rw [hd]; rfl)]
    split
    · rename_i e; subst e; exact hd.symm
    · rfl
  refine xo_le (s' := ⟨s.fr, upd s.mem r B, s.nx⟩) (fun Γ ρ w a hn hok => ⟨ρ, Env.same_refl _ _, hn, ⟨⟨hok.inv.pub, fun t B h => ?_, fun t t' b B B' h h' => ?_⟩, hok.marks, hok.frame⟩, ?_⟩) h
  · rw [hsame] at h; exact hok.inv.priv t B h
  · rw [hsame] at h h'; exact hok.inv.inj t t' b B B' h h'
  · rintro b ⟨t, B, hB, hb⟩
    rw [hsame] at hB
    exact ⟨t, B, hB, hb⟩
/-- Whether a slice is nil: both ways are walked; a nil one has no elements. -/
def nilAt (T : Tab) (N : Nat) (ops : Array Oper) (fr : Fr) (i : Nat) : Option (List SV × Nat) :=
  match ops.toList[i]? with
  | some o => match o.op, gd ops fr o.guard, o.dst with
    | .binOp .eql t x y _, some true, some d => match Nat.blt d N, fnd T t with
      | true, some ti => match ti.d, evo fr x, evo fr y with
        | .slice _, .sl _ _ xs, .nils => some (xs, d)
        | _, _, _ => none
      | _, _ => none
    | _, _, _ => none
  | none => none
theorem nilc_ (hT : TabOk P T) {i : Nat} {K : St → Prop} {s : St} (xs : List SV) (d : Nat) (h : nilAt T N ops s.fr i = some (xs, d)) (ht : xs = [] → XOi rd P N n0 ops (i + 1) K ⟨(d, .bool true) :: s.fr, s.mem, s.nx⟩) (hf : XOi rd P N n0 ops (i + 1) K ⟨(d, .bool false) :: s.fr, s.mem, s.nx⟩) : XOi rd P N n0 ops i K s := by
  unfold nilAt at h
  split at h
  · rename_i o ho
    split at h
    · rename_i t x y t2 d' hop hg hd
      split at h
      · rename_i ti hdN hti
        split at h
        · rename_i e b z xs' hde hx hy
          simp only [Option.some.injEq, Prod.mk.injEq] at h
          obtain ⟨rfl, rfl⟩ := h
          have hdesc := (hT t ti hti).desc
          rw [hde] at hdesc; simp only [DescOk] at hdesc
          have key : ∀ v : Bool, (v = true → xs' = []) → XOi rd P N n0 ops (i + 1) K ⟨(d', .bool v) :: s.fr, s.mem, s.nx⟩ := fun v hv => by
            cases v with
            | true => exact ht (hv rfl)
            | false => exact hf
          unfold XOi
          rw [drop_cons ho]
          intro Γ ρ w a Q hn hok hQ
          have g := (evo_den hok.frame x).1
          have gy := (evo_den hok.frame y).1
          rw [hx] at g; rw [hy] at gy
          simp only [Den] at g gy
          obtain ⟨v, hrun, hv⟩ : ∃ v : Bool, (execOp a.eval o).run P w = .ok (.value (.bool v)) w ∧ (v = true → xs' = []) := by
            rcases g with ⟨ad, g1, g2⟩ | ⟨b', off, cap, cs, g1, _⟩
            · cases ad with
              | none =>
                refine ⟨!false, ?_, fun _ => g2⟩
                simp only [execOp, hop]
                rw [Sem.run_bind, g1, gy, Sem.run_bind, eqGuard_ok _ _ _ _ _ _ _ (by simp) (by simp), Result.andThen_ok]
                have := run_cmp_nil (P := P) hdesc w false
                simp only [cond_false] at this
                rw [this]; rfl
              | some ad =>
                refine ⟨false, ?_, fun h => by cases h⟩
                simp only [execOp, hop]
                rw [Sem.run_bind, g1, gy, Sem.run_bind, eqGuard_ok _ _ _ _ _ _ _ (by simp) (by simp), Result.andThen_ok]
                have := run_cmp_slice (P := P) hdesc w ad 0 0 false
                simp only [cond_false] at this
                rw [this]; rfl
            · refine ⟨false, ?_, fun h => by cases h⟩
              simp only [execOp, hop]
              rw [Sem.run_bind, g1, gy, Sem.run_bind, eqGuard_ok _ _ _ _ _ _ _ (by simp) (by simp), Result.andThen_ok]
              have := run_cmp_slice (P := P) hdesc w ⟨b', off, none⟩ xs'.length cap false
              simp only [cond_false] at this
              rw [this]; rfl
          have hp : putS N s.fr o.dst (.bool v) = some ((d', .bool v) :: s.fr) := by simp only [putS, hd, hdN]
          refine wpListIn_step fun K' hK' => ?_
          rw [gd_sound hok.frame hg, if_pos rfl]
          refine ⟨fun _ _ => trivial, ?_⟩
          rw [sem_round hrun (.inl rfl)]
          exact hK' _ _ (key v hv Γ ρ w _ Q hn ⟨hok.inv, by rw [put_defers]; exact hok.marks, putS_sound hp hok.frame (by simp only [Den]) rfl⟩ (fun Γ₂ ρ₂ s₂ w₂ a₂ g1 g2 g3 => hQ Γ₂ ρ₂ s₂ w₂ a₂ g1 ⟨g2.stp, g2.le, g2.same, g2.nx, g2.new⟩ g3))
        · cases h
      · cases h
    · cases h
  · cases h
end
end Go.Proofs.Ytjchmajamlehmaa.X
