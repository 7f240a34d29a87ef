/- A slice that is written out and stays one's own as a block of cells: function values may stand in it. -/
import Derived.Test.YtnfkgfibinimmaaXy
namespace Go.Proofs.Ytnfkgfibinimmaa.X
open Go Go.RowKit

section
variable {P : Program} {T : Tab} {N : Nat} {fr : Fr} {mem : Mem} {nx : Nat} {o : Oper}

def xcells (T : Tab) (fr : Fr) (mem : Mem) (nx : Nat) (t len : Nat) (parts : Array (Nat × Operand)) : R :=
  match fnd T t with
  | some ti => match ti.d with
    | .slice e => match fnd T e, dense 0 parts.toList with
      | some ei, some xs => match Nat.beq xs.length len, (xs.map (evo fr)).all SV.single, Nat.ble len 1000, Nat.beq ei.cells 1, Nat.ble 1 len with
        | true, true, true, true, true => some (.osub nx 1 0 len, (nx, .cells (xs.map (evo fr)) e) :: mem, nx + 1, True)
        | _, _, _, _, _ => none
      | _, _ => none
    | _ => none
  | none => none

theorem dense_one {Γ : Gh} {ρ : Env} : ∀ {l : List SV} {vs : List Value}, DenL Γ ρ l vs → l.all SV.single = true → ∀ v ∈ vs, v.oneCell' = true
  | [], vs, h, _, v, hv => by simp only [DenL] at h; subst h; cases hv
  | s :: l, vs, h, hs, v, hv => by
    simp only [DenL] at h
    obtain ⟨u, r, rfl, h1, h2⟩ := h
    simp only [List.all_cons, Bool.and_eq_true] at hs
    rcases List.mem_cons.1 hv with rfl | hv
    · exact h1.single hs.1
    · exact dense_one h2 hs.2 v hv
theorem flat_one : ∀ {vs : List Value}, (∀ v ∈ vs, v.oneCell' = true) → vs.flatMap (fun v => v.cells.toList) = vs
  | [], _ => rfl
  | v :: vs, h => by
    rw [List.flatMap_cons, flat_one fun u hu => h u (List.mem_cons_of_mem _ hu), cells_of_one (h v (by simp))]
    rfl

theorem ok_cells (hT : TabOk P T) {t len : Nat} {parts : Array (Nat × Operand)} (ho : o.op = .buildSlice t len parts) {sv : SV} {mem' : Mem} {nx' : Nat} {k : Prop} (h : xcells T fr mem nx t len parts = some (sv, mem', nx', k)) : OpOk P N fr mem nx o sv mem' nx' := by
  unfold xcells at h
  split at h
  · rename_i ti hti
    have hdesc := (hT t ti hti).desc
    split at h
    · rename_i e hd
      rw [hd] at hdesc; simp only [DescOk] at hdesc
      split at h
      · rename_i ei xs hei hds
        split at h
        · rename_i hlen hrow hsm hz1 hl1
          simp only [Option.some.injEq, Prod.mk.injEq] at h
          obtain ⟨rfl, rfl, rfl, rfl⟩ := h
          have hlen : xs.length = len := Nat.eq_of_beq_eq_true hlen
          have hsm : len ≤ 1000 := Nat.le_of_ble_eq_true hsm
          have hz1 : ei.cells = 1 := Nat.eq_of_beq_eq_true hz1
          have hl1 : 1 ≤ len := Nat.le_of_ble_eq_true hl1
          intro Γ ρ w a hi hf
          obtain ⟨hd1, hd2⟩ := mapDen hf xs
          have hone := dense_one hd1 hrow
          obtain ⟨zv, hzv, _⟩ := (hT e ei hei).zeroValue
          have he := dense_spec parts.toList 0 xs a hds
          let base : Array Value := (Array.range (len * 1)).map (fun i => zv.cells[i % zv.cells.size]!)
          have hbase : base.size = len := by simp [base]
          obtain ⟨r, hr, hrl⟩ := fill_list 1 (xs.map a.eval) 0 base (fun v hv => by rw [cells_of_one (hone v hv)]; rfl) (by rw [hbase]; simp [hlen])
          have hrl' : r.toList = xs.map a.eval := by
            rw [hrl, flat_one hone]
            simp [hlen, hbase, List.drop_of_length_le]
          have hrun : (execOp a.eval o).run P w = .ok (.value (.slice (some ⟨w.heap.size, 0, none⟩) len len)) (w.alloc (.cells r e)) := by
            have hsm' : ¬ len * ei.cells > 2 ^ 24 := by rw [hz1]; omega
            have hr' : Instr.fill (fun i => some (i * 1, 1)) base (parts.toList.map fun x => (x.1, a.eval x.2)) = some r := by rw [he]; exact hr
            simp only [execOp, ho, Instr.buildSlice, Sem.run_bind, run_underlying hdesc, Result.andThen_ok, (hT e ei hei).sizeOf, if_neg hsm', Sem.run_pure, Array.toList_map]
            have hpe : (List.map (fun x : Nat × Operand => (x.1, a.eval x.2)) parts.toList) = List.map (fun (i, x) => (i, a.eval x)) parts.toList := rfl
            rw [hpe] at hr'
            have h0 : ¬ len * ei.cells = 0 := by rw [hz1]; omega
            rw [if_neg h0]
            simp only [Sem.run_bind, hzv, Result.andThen_ok, Sem.run_pure]
            simp only [base] at hr'
            rw [← hz1] at hr'
            rw [hr']
            simp [newRow]
          refine ⟨_, _, Γ, ρ.add nx (some w.heap.size) none, _, hrun, .inl rfl, ?_, by simp [SV.bd], ?_, Env.add_same _ _ _ _, Nat.le_succ _, Stp.alloc hi _ _ _, Gh.le_refl _, fun _ hb => .inl hb⟩
          · simp only [Den]; exact ⟨_, len, 0, Env.add_blk _ _ _ _, fun _ => by simp, rfl⟩
          · refine hi.alloc _ none (.cells (xs.map (evo fr)) e) ⟨w.heap.size, r, Env.add_blk _ _ _ _, by rw [heap_alloc_new], ?_, by rw [hrl']; exact hone, ?_⟩ (bdL_mono (Nat.le_succ _) _ hd2)
            · rw [hrl']; exact DenL.ext (Gh.le_refl _) _ _ (Env.add_same _ _ _ _) hd2 hd1
            · cases hq : Γ w.heap.size with
              | none => rfl
              | some cs' => exact absurd (hi.lt hq) (Nat.lt_irrefl _)
        · cases h
      · cases h
    · cases h
  · cases h

def xidxc (T : Tab) (fr : Fr) (mem : Mem) (nx : Nat) (t : Nat) (x i : Operand) : R :=
  match fnd T t, evo fr i with
  | some ti, .int _ n => match ti.d with
    | .slice e => match fnd T e, evo fr x with
      | some ei, .osub r 1 lo cnt => match Nat.beq ei.cells 1 with
        | true => some (.loc r (lo + n.toNat), mem, nx, 0 ≤ n ∧ n < (cnt : Int))
        | false => none
      | _, _ => none
    | _ => none
  | _, _ => none
theorem ok_idxc (hT : TabOk P T) {t : Nat} {x i : Operand} (ho : o.op = .indexAddr t x i) {sv : SV} {mem' : Mem} {nx' : Nat} {k : Prop} (h : xidxc T fr mem nx t x i = some (sv, mem', nx', k)) (hk : k) : OpOk P N fr mem nx o sv mem' nx' := by
  unfold xidxc at h
  split at h
  · rename_i ti ki n hti hi'
    have hdesc := (hT t ti hti).desc
    split at h
    · rename_i e hd
      rw [hd] at hdesc; simp only [DescOk] at hdesc
      split at h
      · rename_i ei r lo cnt he hx
        split at h
        · rename_i hz
          have hz : ei.cells = 1 := Nat.eq_of_beq_eq_true hz
          simp only [Option.some.injEq, Prod.mk.injEq] at h
          obtain ⟨rfl, rfl, rfl, rfl⟩ := h
          obtain ⟨hk1, hk2⟩ := hk
          refine OpOk.pure fun Γ ρ w a hi hf => ?_
          obtain ⟨h1, h1'⟩ := evo_den hf x
          rw [hx] at h1 h1'; simp only [Den] at h1
          obtain ⟨b, cap, off, g1, g2, hv⟩ := h1
          have h2 := (evo_den hf i).1
          rw [hi'] at h2; simp only [Den] at h2
          have g3 := g2 (by omega)
          subst g3
          refine ⟨.pointer (some ⟨b, lo + n.toNat, none⟩), ?_, ?_, by simpa [SV.bd] using h1'⟩
          · simp [execOp, ho, hv, h2, Instr.indexAt, asIntOf, run_underlying hdesc, hk1, hk2, (hT e ei he).sizeOf, add_addr, hz]
          · simp only [Den]; exact ⟨b, g1, rfl⟩
        · cases h
      · cases h
    · cases h
  · cases h

def xlenc (T : Tab) (fr : Fr) (mem : Mem) (nx : Nat) (t : Nat) (x : Operand) (q : SV) : R :=
  match fnd T t, q with
  | some ti, .int _ r => match ti.d with
    | .slice _ => match evo fr x with
      | .osub _ _ _ n => some (.int .i64 r, mem, nx, ((n : Nat) : Int) = r)
      | _ => none
    | _ => none
  | _, _ => none
theorem ok_lenc (hT : TabOk P T) {t : Nat} {x : Operand} (ho : o.op = .call { callee := .builtin .len, args := #[x], argTypes := #[t] }) {q sv : SV} {mem' : Mem} {nx' : Nat} {k : Prop} (h : xlenc T fr mem nx t x q = some (sv, mem', nx', k)) (hk : k) : OpOk P N fr mem nx o sv mem' nx' := by
  unfold xlenc at h
  split at h
  · rename_i ti k0 r hti
    have hdesc := (hT t ti hti).desc
    split at h
    · rename_i e hd
      rw [hd] at hdesc; simp only [DescOk] at hdesc
      split at h
      · rename_i r' z lo n hx
        simp only [Option.some.injEq, Prod.mk.injEq] at h
        obtain ⟨rfl, rfl, rfl, rfl⟩ := h
        refine OpOk.pure fun Γ ρ w a hi hf => ⟨.int .i64 r, run_len w r ?_ ho, by simp only [Den], rfl⟩
        have h1 := (evo_den hf x).1
        rw [hx] at h1; simp only [Den] at h1
        obtain ⟨b, cap, off, g1, g2, hv⟩ := h1
        simp [Builtin.len_, run_underlying hdesc, hv, goInt, ← hk]
      · cases h
    · cases h
  · cases h
end
end Go.Proofs.Ytnfkgfibinimmaa.X
