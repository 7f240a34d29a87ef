/- The operations: their symbolic results and that these are right. Part 2. -/
import Derived.Test.YtjchmajamlehmaaXc
namespace Go.Proofs.Ytjchmajamlehmaa.X
open Go Go.RowKit

abbrev R := Option (SV × Mem × Nat × Prop)

theorem add_addr (b o n : Nat) : (⟨b, o, none⟩ : Addr).add n = ⟨b, o + n, none⟩ := by
  unfold Addr.add; split <;> simp_all

section
variable {P : Program} {T : Tab} {N : Nat} {fr : Fr} {mem : Mem} {nx : Nat} {o : Oper}

theorem ok_move {x : Operand} (ho : o.op = .move x ∨ o.op = .assign x) : OpOk P N fr mem nx o (evo fr x) mem nx := OpOk.pure fun Γ ρ w a _ hf => by
  obtain ⟨h1, h2⟩ := evo_den hf x
  refine ⟨a.eval x, ?_, h1, h2⟩
  rcases ho with ho | ho <;> simp [execOp, ho]

def xpick (fr : Fr) (mem : Mem) (nx : Nat) (c a b : Operand) (q : SV) : R :=
  match q with
  | .bool r => match evo fr c, evo fr a, evo fr b with
    | .bool c, .bool x, .bool y => some (.bool r, mem, nx, (bif c then x else y) = r)
    | _, _, _ => none
  | _ => match evo fr c with
    | .bool true => some (evo fr a, mem, nx, True)
    | .bool false => some (evo fr b, mem, nx, True)
    | _ => none

theorem ok_pick {c a b : Operand} (ho : o.op = .pick c a b) {q sv : SV} {mem' : Mem} {nx' : Nat} {k : Prop} (h : xpick fr mem nx c a b q = some (sv, mem', nx', k)) (hk : k) : OpOk P N fr mem nx o sv mem' nx' := by
  unfold xpick at h
  split at h
  · rename_i r
    split at h
    · rename_i c' x y hc hx hy
      simp only [Option.some.injEq, Prod.mk.injEq] at h
      obtain ⟨rfl, rfl, rfl, rfl⟩ := h
      refine OpOk.pure fun Γ ρ w act _ hf => ?_
      have h1 := (evo_den hf c).1; have h2 := (evo_den hf a).1; have h3 := (evo_den hf b).1
      rw [hc] at h1; rw [hx] at h2; rw [hy] at h3
      simp only [Den] at h1 h2 h3
      refine ⟨.bool r, ?_, by simp only [Den], rfl⟩
      cases c' <;> simp_all [execOp, asBool]
    · cases h
  · split at h
    · rename_i hc
      simp only [Option.some.injEq, Prod.mk.injEq] at h
      obtain ⟨rfl, rfl, rfl, rfl⟩ := h
      refine OpOk.pure fun Γ ρ w act _ hf => ?_
      have h1 := (evo_den hf c).1
      rw [hc] at h1; simp only [Den] at h1
      exact ⟨act.eval a, by simp [execOp, ho, h1, asBool], (evo_den hf a).1, (evo_den hf a).2⟩
    · rename_i hc
      simp only [Option.some.injEq, Prod.mk.injEq] at h
      obtain ⟨rfl, rfl, rfl, rfl⟩ := h
      refine OpOk.pure fun Γ ρ w act _ hf => ?_
      have h1 := (evo_den hf c).1
      rw [hc] at h1; simp only [Den] at h1
      exact ⟨act.eval b, by simp [execOp, ho, h1, asBool], (evo_den hf b).1, (evo_den hf b).2⟩
    · cases h

theorem ok_new {l : List SV} {E : Nat} (hrun : ∀ Γ ρ w a, Inv Γ ρ nx mem w → FrDen Γ ρ nx N fr a → ∃ cs : Array Value, (execOp a.eval o).run P w = .ok (.value (.pointer (some ⟨w.heap.size, 0, none⟩))) (w.alloc (.cells cs E)) ∧
    DenL Γ ρ l cs.toList ∧ (∀ c ∈ cs.toList, c.oneCell' = true) ∧ bdL nx l = true) : OpOk P N fr mem nx o (.loc nx 0) ((nx, .cells l E) :: mem) (nx + 1) := by
  intro Γ ρ w a hi hf
  obtain ⟨cs, h1, h2, h3, h4⟩ := hrun Γ ρ w a hi hf
  refine ⟨_, _, Γ, ρ.add nx (some w.heap.size) none, _, h1, .inl rfl, ?_, by simp [SV.bd], ?_, Env.add_same _ _ _ _, Nat.le_succ _, Stp.alloc hi _ _ _, Gh.le_refl _, fun _ hb => .inl hb⟩
  · simp only [Den]; exact ⟨_, Env.add_blk _ _ _ _, rfl⟩
  · refine hi.alloc _ none (.cells l E) ⟨w.heap.size, cs, Env.add_blk _ _ _ _, by rw [heap_alloc_new], ?_, h3, ?_⟩ (bdL_mono (Nat.le_succ _) l h4)
    · exact DenL.ext (Gh.le_refl _) l _ (Env.add_same _ _ _ _) h4 h2
    · cases hq : Γ w.heap.size with
      | none => rfl
      | some cs' => exact absurd (hi.lt hq) (Nat.lt_irrefl _)

def xbox (fr : Fr) (mem : Mem) (nx : Nat) (t : Nat) (x : Operand) : R :=
  match cellsOf (evo fr x) with
  | some l => some (.loc nx 0, (nx, .cells l t) :: mem, nx + 1, True)
  | none => none

theorem ok_box {t : Nat} {x : Operand} (ho : o.op = .box t x) {sv : SV} {mem' : Mem} {nx' : Nat} {k : Prop} (h : xbox fr mem nx t x = some (sv, mem', nx', k)) : OpOk P N fr mem nx o sv mem' nx' := by
  unfold xbox at h
  split at h
  · rename_i l hl
    simp only [Option.some.injEq, Prod.mk.injEq] at h
    obtain ⟨rfl, rfl, rfl, rfl⟩ := h
    refine ok_new fun Γ ρ w a hi hf => ?_
    obtain ⟨h1, h2⟩ := evo_den hf x
    obtain ⟨h3, h4, h5⟩ := cellsOf_den hl h1 h2
    exact ⟨(a.eval x).cells, by simp [execOp, ho, Instr.box, newVar, newRow], h3, h4, h5⟩
  · cases h

theorem const_den {Γ : Gh} {ρ : Env} {n : Nat} {s : SV} {v : Value} (h : s.const = some v) : Den Γ ρ s v ∧ v.oneCell' = true ∧ s.bd n = true ∧ s.single = true := by
  cases s with
  | int k n => simp only [SV.const, Option.some.injEq] at h; subst h; exact ⟨by simp only [Den], rfl, rfl, rfl⟩
  | bool b => simp only [SV.const, Option.some.injEq] at h; subst h; exact ⟨by simp only [Den], rfl, rfl, rfl⟩
  | nils => simp only [SV.const, Option.some.injEq] at h; subst h; exact ⟨by simp only [Den], rfl, rfl, rfl⟩
  | raw u =>
    simp only [SV.const] at h
    split at h
    · rename_i hu; cases h; exact ⟨by simp only [Den]; exact ⟨trivial, hu⟩, hu, rfl, rfl⟩
    · cases h
  | _ => simp [SV.const] at h
theorem consts_den {Γ : Gh} {ρ : Env} {n : Nat} : ∀ {l : List SV} {vs : List Value}, vs.map some = l.map SV.const → DenL Γ ρ l vs ∧ (∀ c ∈ vs, c.oneCell' = true) ∧ bdL n l = true ∧ l.all SV.single = true
  | [], vs, h => by simp at h; subst h; simp [DenL, bdL]
  | s :: l, [], h => by simp at h
  | s :: l, v :: vs, h => by
    simp only [List.map_cons, List.cons.injEq] at h
    obtain ⟨h1, h2, h3, h4⟩ := const_den (Γ := Γ) (ρ := ρ) (n := n) h.1.symm
    obtain ⟨h5, h6, h7, h8⟩ := consts_den (Γ := Γ) (ρ := ρ) (n := n) h.2
    refine ⟨by simp only [DenL]; exact ⟨v, vs, rfl, h1, h5⟩, ?_, by simp [bdL, h3, h7], by simp [h4]; simpa using h8⟩
    intro c hc
    rcases List.mem_cons.1 hc with rfl | hc
    · exact h2
    · exact h6 c hc

def xalloc (T : Tab) (mem : Mem) (nx : Nat) (t : Nat) : R :=
  match fnd T t with
  | some ti => some (.loc nx 0, (nx, .cells ti.zero t) :: mem, nx + 1, True)
  | none => none

theorem ok_alloc (hT : TabOk P T) {t : Nat} (ho : o.op = .alloc t) {sv : SV} {mem' : Mem} {nx' : Nat} {k : Prop} (h : xalloc T mem nx t = some (sv, mem', nx', k)) : OpOk P N fr mem nx o sv mem' nx' := by
  unfold xalloc at h
  split at h
  · rename_i ti hti
    simp only [Option.some.injEq, Prod.mk.injEq] at h
    obtain ⟨rfl, rfl, rfl, rfl⟩ := h
    refine ok_new fun Γ ρ w a hi hf => ?_
    obtain ⟨zv, h1, h2⟩ := (hT t ti hti).zeroValue
    obtain ⟨h3, h4, h5, _⟩ := consts_den (Γ := Γ) (ρ := ρ) (n := nx) h2
    exact ⟨zv.cells, by simp [execOp, ho, Instr.alloc, h1, newVar, newRow], h3, h4, h5⟩
  · cases h

theorem run_loadVar_at {t : Nat} {ti : TI} (ht : TIok P t ti) {w : World} {b : Nat} {arr : Array Value} {E : Nat} {fz : Nat × Nat} (hb : w.heap[b]? = some (.cells arr E fz)) (off : Nat) :
    (ti.agg = true → off + ti.cells ≤ arr.size → (loadVar t ⟨b, off, none⟩).run P w = .ok (.agg ((arr.toList.drop off).take ti.cells).toArray) w) ∧
    (ti.agg = false → ∀ v, arr.toList[off]? = some v → (loadVar t ⟨b, off, none⟩).run P w = .ok v w) := by
  constructor
  · intro ha hl
    have hlen : ((arr.toList.drop off).take ti.cells).length = ti.cells := by simp; omega
    have := run_loadCells_list (P := P) w ⟨b, off, none⟩ ((arr.toList.drop off).take ti.cells) (fun j v hj => by
      rw [add_addr, cell_of_row w b (off + j) arr E fz hb]
      have hjl : j < ti.cells := by
        have := List.getElem?_eq_some_iff.1 hj
        obtain ⟨h, _⟩ := this
        rw [hlen] at h; exact h
      rw [List.getElem?_take_of_lt hjl, List.getElem?_drop] at hj
      simpa using hj)
    rw [hlen] at this
    simp only [loadVar, Sem.run_bind, ht.isAgg, Result.andThen_ok, ha, if_true, ht.sizeOf, this, Sem.run_pure]
  · intro ha v hv
    simp only [loadVar, Sem.run_bind, ht.isAgg, Result.andThen_ok, ha, Bool.false_eq_true, if_false, run_load]
    rw [cell_of_row w b off arr E fz hb]
    have : arr[off]? = some v := by simpa using hv
    rw [this]

def xload (T : Tab) (fr : Fr) (mem : Mem) (nx : Nat) (t : Nat) (x : Operand) (q : SV) : R :=
  match evo fr x, fnd T t with
  | .loc r off, some ti => match fnd mem r with
    | some (.cells l _) => match ti.agg with
      | true => match Nat.ble (off + ti.cells) l.length with
        | true => some (.agg ((l.drop off).take ti.cells), mem, nx, True)
        | false => none
      | false => match l[off]? with
        | some s => some (s, mem, nx, True)
        | none => none
    | _ => none
  | .elt s, some ti => match ti.agg, s with
    | true, .agg l => match Nat.beq ti.cells l.length with
      | true => some (.agg l, mem, nx, True)
      | false => none
    | false, s => match s.single with
      | true => some (s, mem, nx, True)
      | false => none
    | _, _ => none
  | .relt r z i o, some ti => match fnd mem r, ti.agg, o with
    | some (.row z' _ xs), true, 0 => match q, Nat.beq z z', Nat.beq z ti.cells with
      | .agg l, true, true => match Nat.beq l.length z with
        | true => some (.agg l, mem, nx, xs[i]? = some (.agg l))
        | false => none
      | _, _, _ => none
    | some (.row z' _ xs), false, 0 => match Nat.beq z 1, Nat.beq z z', q.single, Nat.beq ti.cells 1 with
      | true, true, true, true => some (q, mem, nx, xs[i]? = some q)
      | _, _, _, _ => none
    | _, _, _ => none
  | _, _ => none

theorem DenE.get {Γ : Gh} {z : Nat} : ∀ {xs : List SV} {cs : List Value} (i : Nat) {s : SV}, DenE Γ z xs cs → xs[i]? = some s → ∃ v, Den Γ Env.nil s v ∧ v.cells.size = z ∧ v.cells.toList = (cs.drop (i * z)).take z
  | [], _, i, s, _, hi => by simp at hi
  | x :: xs, cs, 0, s, h, hi => by
    simp only [DenE] at h
    simp at hi; subst hi
    obtain ⟨⟨v, h1, h2, h3⟩, _⟩ := h
    exact ⟨v, h1, h2, by simpa using h3⟩
  | x :: xs, cs, i + 1, s, h, hi => by
    simp only [DenE] at h
    simp at hi
    obtain ⟨v, h1, h2, h3⟩ := DenE.get i h.2 hi
    refine ⟨v, h1, h2, ?_⟩
    rw [h3, List.drop_drop]
    congr 2
    rw [Nat.add_mul]; omega

theorem DenE.len {Γ : Gh} {z : Nat} : ∀ {xs : List SV} {cs : List Value}, DenE Γ z xs cs → xs.length * z ≤ cs.length
  | [], _, _ => by simp
  | x :: xs, cs, h => by
    simp only [DenE] at h
    obtain ⟨⟨v, _, h2, h3⟩, h4⟩ := h
    have h5 := DenE.len h4
    have h6 : z ≤ cs.length := by
      have := congrArg List.length h3
      simp only [Array.length_toList, List.length_take, h2] at this
      omega
    simp only [List.length_cons, List.length_drop] at *
    rw [Nat.add_mul]; omega

mutual
/-- What denotes something under the empty environment does so under every one. -/
theorem Den.ofNil {Γ : Gh} {ρ : Env} : ∀ (s : SV) (v : Value), Den Γ Env.nil s v → Den Γ ρ s v ∧ (∀ n, s ≠ .junk → s.bd n = true)
  | .int _ _, _, h => ⟨by simpa only [Den] using h, fun _ _ => rfl⟩
  | .bool _, _, h => ⟨by simpa only [Den] using h, fun _ _ => rfl⟩
  | .loc r o, v, h => by simp only [Den, Env.nil] at h; obtain ⟨b, h, _⟩ := h; cases h
  | .agg l, v, h => by
    simp only [Den] at *
    obtain ⟨vs, e, h⟩ := h
    exact ⟨⟨vs, e, (DenL.ofNil l _ h).1⟩, fun n _ => (DenL.ofNil (ρ := ρ) l _ h).2 n⟩
  | .tup l, v, h => by
    simp only [Den] at *
    obtain ⟨vs, e, h⟩ := h
    exact ⟨⟨vs, e, (DenL.ofNil l _ h).1⟩, fun n _ => (DenL.ofNil (ρ := ρ) l _ h).2 n⟩
  | .fn f a c, v, h => by
    simp only [Den] at *
    obtain ⟨va, vc, e, h1, h2⟩ := h
    exact ⟨⟨va, vc, e, (DenL.ofNil a _ h1).1, (DenL.ofNil c _ h2).1⟩, fun n _ => by simp [SV.bd, (DenL.ofNil (ρ := ρ) a _ h1).2 n, (DenL.ofNil (ρ := ρ) c _ h2).2 n]⟩
  | .nils, _, h => ⟨by simpa only [Den] using h, fun _ _ => rfl⟩
  | .sl x z xs, v, h => ⟨by simpa only [Den] using h, fun _ _ => rfl⟩
  | .own r, v, h => by simp only [Den, Env.nil] at h; exact absurd h.1 (by simp)
  | .relt _ _ _ _, v, h => by simp only [Den, Env.nil] at h; obtain ⟨b, h, _⟩ := h; cases h
  | .osub _ _ _ _, v, h => by simp only [Den, Env.nil] at h; obtain ⟨b, _, _, h, _⟩ := h; cases h
  | .elt s, v, h => ⟨by simpa only [Den] using h, fun _ _ => rfl⟩
  | .raw _, _, h => ⟨by simpa only [Den] using h, fun _ _ => rfl⟩
  | .any, _, h => ⟨by simpa only [Den] using h, fun _ _ => rfl⟩
  | .junk, _, _ => ⟨by simp only [Den], fun _ h => absurd rfl h⟩
theorem DenL.ofNil {Γ : Gh} {ρ : Env} : ∀ (l : List SV) (vs : List Value), DenL Γ Env.nil l vs → DenL Γ ρ l vs ∧ ∀ n, bdL n l = true
  | [], _, h => ⟨by simpa only [DenL] using h, fun _ => rfl⟩
  | s :: l, vs, h => by
    simp only [DenL] at *
    obtain ⟨v, r, e, h1, h2⟩ := h
    refine ⟨⟨v, r, e, (Den.ofNil s v h1).1, (DenL.ofNil l r h2).1⟩, fun n => ?_⟩
    have hs : s.bd n = true := by
      by_cases hj : s = .junk
      · subst hj; rfl
      · exact (Den.ofNil (ρ := ρ) s v h1).2 n hj
    simp [bdL, hs, (DenL.ofNil (ρ := ρ) l r h2).2 n]
end
theorem Den.nil_bd {Γ : Gh} {s : SV} {v : Value} (h : Den Γ Env.nil s v) (n : Nat) : s.bd n = true := by
  by_cases hj : s = .junk
  · subst hj; rfl
  · exact (Den.ofNil (ρ := Env.nil) s v h).2 n hj

theorem ok_load (hT : TabOk P T) {t : Nat} {x : Operand} (ho : o.op = .load t x) {q sv : SV} {mem' : Mem} {nx' : Nat} {k : Prop} (h : xload T fr mem nx t x q = some (sv, mem', nx', k)) (hk : k) : OpOk P N fr mem nx o sv mem' nx' := by
  unfold xload at h
  split at h
  · rename_i r off ti hx hti
    split at h
    · rename_i l E hl
      split at h
      · rename_i ha
        split at h
        · rename_i hle
          simp only [Option.some.injEq, Prod.mk.injEq] at h
          obtain ⟨rfl, rfl, rfl, rfl⟩ := h
          refine OpOk.pure fun Γ ρ w a hi hf => ?_
          have h1 := (evo_den hf x).1
          rw [hx] at h1; simp only [Den] at h1
          obtain ⟨b, hb, hv⟩ := h1
          obtain ⟨⟨b', arr, h3, h4, h5, _⟩, _, h7⟩ := hi.priv r _ hl
          rw [hb] at h3; cases h3
          have hlen := h5.length
          have hle' : off + ti.cells ≤ arr.size := by
            have : off + ti.cells ≤ l.length := Nat.le_of_ble_eq_true hle
            simp at hlen; omega
          refine ⟨.agg ((arr.toList.drop off).take ti.cells).toArray, by simp only [execOp, ho, Instr.loadAt, Instr.sureAddr, hv, Sem.run_bind, Sem.run_pure, Result.andThen_ok, (run_loadVar_at (hT t ti hti) h4 off).1 ha hle'], ?_, ?_⟩
          · simp only [Den]; exact ⟨_, rfl, by simpa using (h5.drop off).take ti.cells⟩
          · exact bdL_take _ (bdL_drop _ h7)
        · cases h
      · rename_i ha
        split at h
        · rename_i s hs
          simp only [Option.some.injEq, Prod.mk.injEq] at h
          obtain ⟨rfl, rfl, rfl, rfl⟩ := h
          refine OpOk.pure fun Γ ρ w a hi hf => ?_
          have h1 := (evo_den hf x).1
          rw [hx] at h1; simp only [Den] at h1
          obtain ⟨b, hb, hv⟩ := h1
          obtain ⟨⟨b', arr, h3, h4, h5, _⟩, _, h7⟩ := hi.priv r _ hl
          rw [hb] at h3; cases h3
          obtain ⟨v, hv1, hv2⟩ := h5.get off hs
          exact ⟨v, by simp only [execOp, ho, Instr.loadAt, Instr.sureAddr, hv, Sem.run_bind, Sem.run_pure, Result.andThen_ok, (run_loadVar_at (hT t ti hti) h4 off).2 ha v hv1], hv2, bdL_get off h7 hs⟩
        · cases h
    · cases h
  · rename_i s ti hx hti
    have key : ∀ (Γ : Gh) (ρ : Env) (w : World) (a : Act), Inv Γ ρ nx mem w → FrDen Γ ρ nx N fr a → ∃ (b off : Nat) (cs : List Value) (u : Value) (E : Nat) (fz : Nat × Nat), a.eval x = .pointer (some ⟨b, off, none⟩) ∧ w.heap[b]? = some (.cells cs.toArray E fz) ∧ Den Γ Env.nil s u ∧ off + u.cells.size ≤ cs.length ∧ u.cells.toList = (cs.drop off).take u.cells.size := by
      intro Γ ρ w a hi hf
      have h1 := (evo_den hf x).1
      rw [hx] at h1; simp only [Den] at h1
      obtain ⟨b, off, cs, u, h2, h3, h4, h5, h6⟩ := h1
      obtain ⟨E, fz, h7⟩ := hi.pub b cs h3
      exact ⟨b, off, cs, u, E, fz, h2, h7, h4, h5, h6⟩
    split at h
    · rename_i l ha
      split at h
      · rename_i hle
        simp only [Option.some.injEq, Prod.mk.injEq] at h
        obtain ⟨rfl, rfl, rfl, rfl⟩ := h
        refine OpOk.pure fun Γ ρ w a hi hf => ?_
        obtain ⟨b, off, cs, u, E, fz, h2, h3, h4, h5, h6⟩ := key Γ ρ w a hi hf
        have hcell : ti.cells = l.length := Nat.eq_of_beq_eq_true hle
        have h4' := h4
        simp only [Den] at h4'
        obtain ⟨vs, rfl, h7⟩ := h4'
        have hlen := h7.length
        simp only [Array.length_toList] at hlen
        have hsz : (Value.agg vs).cells.size = ti.cells := by simp [Value.cells, hlen, hcell]
        rw [hsz] at h5 h6
        refine ⟨.agg vs, ?_, (Den.ofNil _ _ h4).1, h4.nil_bd nx⟩
        simp only [execOp, ho, Instr.loadAt, Instr.sureAddr, h2, Sem.run_bind, Sem.run_pure, Result.andThen_ok, (run_loadVar_at (hT t ti hti) h3 off).1 ha (by simpa using h5)]
        congr 2
        have : vs.toList = (cs.drop off).take ti.cells := h6
        rw [show (cs.toArray.toList.drop off).take ti.cells = (cs.drop off).take ti.cells from by simp, ← this]
      · cases h
    · rename_i ha
      split at h
      · rename_i hs
        simp only [Option.some.injEq, Prod.mk.injEq] at h
        obtain ⟨rfl, rfl, rfl, rfl⟩ := h
        refine OpOk.pure fun Γ ρ w a hi hf => ?_
        obtain ⟨b, off, cs, u, E, fz, h2, h3, h4, h5, h6⟩ := key Γ ρ w a hi hf
        have h1 := h4.single hs
        rw [cells_of_one h1] at h5 h6
        refine ⟨u, ?_, (Den.ofNil _ _ h4).1, h4.nil_bd nx⟩
        have hv : cs.toArray.toList[off]? = some u := by
          have : (cs.drop off).take 1 = [u] := by simpa using h6.symm
          have h0 : ((cs.drop off).take 1)[0]? = some u := by rw [this]; rfl
          rw [List.getElem?_take_of_lt (by omega), List.getElem?_drop] at h0
          simpa using h0
        simp only [execOp, ho, Instr.loadAt, Instr.sureAddr, h2, Sem.run_bind, Sem.run_pure, Result.andThen_ok, (run_loadVar_at (hT t ti hti) h3 off).2 ha u hv]
      · cases h
    · cases h
  · rename_i r z i oo ti hx hti
    have key : ∀ (z' E : Nat) (xs : List SV) (s : SV), fnd mem r = some (.row z' E xs) → z = z' → oo = 0 → xs[i]? = some s → ∀ (Γ : Gh) (ρ : Env) (w : World) (a : Act), Inv Γ ρ nx mem w → FrDen Γ ρ nx N fr a →
        ∃ (b : Nat) (arr : Array Value) (u : Value), a.eval x = .pointer (some ⟨b, i * z, none⟩) ∧ w.heap[b]? = some (.cells arr E (0, 0)) ∧ Den Γ Env.nil s u ∧ u.cells.size = z ∧ u.cells.toList = (arr.toList.drop (i * z)).take z ∧ i * z + z ≤ arr.size := by
      intro z' E xs s hm hz ho' hs Γ ρ w a hi hf
      subst hz ho'
      have h1 := (evo_den hf x).1
      rw [hx] at h1; simp only [Den] at h1
      obtain ⟨b, hb, hv⟩ := h1
      obtain ⟨⟨v, hv1, h2⟩, _, _⟩ := hi.priv r _ hm
      rcases h2 with ⟨_, h2, _⟩ | ⟨b', arr, cap, h2, h3, h4, h5, h6, h7, _⟩
      · subst h2; simp at hs
      · rw [hb] at h2; cases h2
        obtain ⟨u, hu1, hu2, hu3⟩ := h7.get i hs
        refine ⟨b, arr, u, by simpa using hv, h4, hu1, hu2, hu3, ?_⟩
        have := congrArg List.length hu3
        simp only [Array.length_toList, List.length_take, List.length_drop, hu2] at this
        have hlen := h7.len
        have hi' : i < xs.length := (List.getElem?_eq_some_iff.1 hs).1
        have : (i + 1) * z ≤ xs.length * z := Nat.mul_le_mul_right _ hi'
        rw [Nat.add_mul] at this
        simp at hlen
        omega
    split at h
    · rename_i z' E xs hm ha
      split at h
      · rename_i l hz hzc
        split at h
        · rename_i hlz
          simp only [Option.some.injEq, Prod.mk.injEq] at h
          obtain ⟨rfl, rfl, rfl, rfl⟩ := h
          refine OpOk.pure fun Γ ρ w a hi hf => ?_
          obtain ⟨b, arr, u, h2, h3, h4, h5, h6, h7⟩ := key z' E xs _ hm (Nat.eq_of_beq_eq_true hz) rfl hk Γ ρ w a hi hf
          have hzt : z = ti.cells := Nat.eq_of_beq_eq_true hzc
          refine ⟨u, ?_, (Den.ofNil _ _ h4).1, h4.nil_bd nx⟩
          simp only [execOp, ho, Instr.loadAt, Instr.sureAddr, h2, Sem.run_bind, Sem.run_pure, Result.andThen_ok, (run_loadVar_at (hT t ti hti) h3 (i * z)).1 ha (by omega)]
          simp only [Den] at h4
          obtain ⟨vs, rfl, _⟩ := h4
          congr 2
          rw [← hzt, ← h6]
          simp [Value.cells]
        · cases h
      · cases h
    · rename_i z' E xs hm ha
      split at h
      · rename_i hz1 hz hs hc
        simp only [Option.some.injEq, Prod.mk.injEq] at h
        obtain ⟨rfl, rfl, rfl, rfl⟩ := h
        refine OpOk.pure fun Γ ρ w a hi hf => ?_
        obtain ⟨b, arr, u, h2, h3, h4, h5, h6, h7⟩ := key z' E xs _ hm (Nat.eq_of_beq_eq_true hz) rfl hk Γ ρ w a hi hf
        have h1 := h4.single hs
        have hz1' : z = 1 := Nat.eq_of_beq_eq_true hz1
        rw [cells_of_one h1, hz1'] at h6
        refine ⟨u, ?_, (Den.ofNil _ _ h4).1, h4.nil_bd nx⟩
        have hv : arr.toList[i * z]? = some u := by
          have h0 : ((arr.toList.drop (i * 1)).take 1)[0]? = some u := by rw [← h6]; rfl
          rw [List.getElem?_take_of_lt (by omega), List.getElem?_drop] at h0
          rw [hz1']; simpa using h0
        simp only [execOp, ho, Instr.loadAt, Instr.sureAddr, h2, Sem.run_bind, Sem.run_pure, Result.andThen_ok, (run_loadVar_at (hT t ti hti) h3 (i * z)).2 ha u hv]
      · cases h
    · cases h
  · cases h

end
end Go.Proofs.Ytjchmajamlehmaa.X
