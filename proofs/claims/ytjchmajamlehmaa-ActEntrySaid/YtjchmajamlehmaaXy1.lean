/- A slice that is written out and stays one's own as a block of cells: function values may stand in it. -/
import Derived.Test.YtjchmajamlehmaaXy
namespace Go.Proofs.Ytjchmajamlehmaa.X
open Go Go.RowKit

section
variable {P : Program} {T : Tab} {N : Nat} {fr : Fr} {mem : Mem} {nx : Nat} {o : Oper}

def xcells (T : Tab) (fr : Fr) (mem : Mem) (nx : Nat) (t len : Nat) (parts : Array (Nat × Operand)) : R :=
  match fnd T t with
  | some ti => match ti.d with
    | .slice e => match fnd T e, dense 0 parts.toList with
      | some ei, some xs => match Nat.beq xs.length len, (xs.map (evo fr)).all SV.single, Nat.ble len 1000, Nat.beq ei.cells 1, Nat.ble 1 len with
        | true, true, true, true, true => some (.osub nx 1 0 len, (nx, .cells (xs.map (evo fr)) e) :: mem, nx + 1, True)
        | _, _, _, _, _ => none
      | _, _ => none
    | _ => none
  | none => none

theorem dense_one {Γ : Gh} {ρ : Env} : ∀ {l : List SV} {vs : List Value}, DenL Γ ρ l vs → l.all SV.single = true → ∀ v ∈ vs, v.oneCell' = true
  | [], vs, h, _, v, hv => by simp only [DenL] at h; subst h; cases hv
  | s :: l, vs, h, hs, v, hv => by
    simp only [DenL] at h
    obtain ⟨u, r, rfl, h1, h2⟩ := h
    simp only [List.all_cons, Bool.and_eq_true] at hs
    rcases List.mem_cons.1 hv with rfl | hv
    · exact h1.single hs.1
    · exact dense_one h2 hs.2 v hv
theorem flat_one : ∀ {vs : List Value}, (∀ v ∈ vs, v.oneCell' = true) → vs.flatMap (fun v => v.cells.toList) = vs
  | [], _ => rfl
  | v :: vs, h => by
    rw [List.flatMap_cons, flat_one fun u hu => h u (List.mem_cons_of_mem _ hu), cells_of_one (h v (by simp))]
    rfl

theorem ok_cells (hT : TabOk P T) {t len : Nat} {parts : Array (Nat × Operand)} (ho : o.op = .buildSlice t len parts) {sv : SV} {mem' : Mem} {nx' : Nat} {k : Prop} (h : xcells T fr mem nx t len parts = some (sv, mem', nx', k)) : OpOk P N fr mem nx o sv mem' nx' := by
  unfold xcells at h
  split at h
  · rename_i ti hti
    have hdesc := (hT t ti hti).desc
    split at h
    · rename_i e hd
      rw [hd] at hdesc; simp only [DescOk] at hdesc
      split at h
      · rename_i ei xs hei hds
        split at h
        · rename_i hlen hrow hsm hz1 hl1
          simp only [Option.some.injEq, Prod.mk.injEq] at h
          obtain ⟨rfl, rfl, rfl, rfl⟩ := h
          have hlen : xs.length = len := Nat.eq_of_beq_eq_true hlen
          have hsm : len ≤ 1000 := Nat.le_of_ble_eq_true hsm
          have hz1 : ei.cells = 1 := Nat.eq_of_beq_eq_true hz1
          have hl1 : 1 ≤ len := Nat.le_of_ble_eq_true hl1
          intro Γ ρ w a hi hf
          obtain ⟨hd1, hd2⟩ := mapDen hf xs
          have hone := dense_one hd1 hrow
          obtain ⟨zv, hzv, _⟩ := (hT e ei hei).zeroValue
          have he := dense_spec parts.toList 0 xs a hds
          let base : Array Value := (Array.range (len * 1)).map (fun i => zv.cells[i % zv.cells.size]!)
          have hbase : base.size = len := by simp [base]
          obtain ⟨r, hr, hrl⟩ := fill_list 1 (xs.map a.eval) 0 base (fun v hv => by rw [cells_of_one (hone v hv)]; rfl) (by rw [hbase]; simp [hlen])
          have hrl' : r.toList = xs.map a.eval := by
            rw [hrl, flat_one hone]
            simp [hlen, hbase, List.drop_of_length_le]
          have hrun : (execOp a.eval o).run P w = .ok (.value (.slice (some ⟨w.heap.size, 0, none⟩) len len)) (w.alloc (.cells r e)) := by
            have hsm' : ¬ len * ei.cells > 2 ^ 24 := by rw [hz1]; omega
            have hr' : Instr.fill (fun i => some (i * 1, 1)) base (parts.toList.map fun x => (x.1, a.eval x.2)) = some r := by rw [he]; exact hr
            simp only [execOp, ho, Instr.buildSlice, Sem.run_bind, run_underlying hdesc, Result.andThen_ok, (hT e ei hei).sizeOf, if_neg hsm', Sem.run_pure, Array.toList_map]
            have hpe : (List.map (fun x : Nat × Operand => (x.1, a.eval x.2)) parts.toList) = List.map (fun (i, x) => (i, a.eval x)) parts.toList := rfl
            rw [hpe] at hr'
            have h0 : ¬ len * ei.cells = 0 := by rw [hz1]; omega
            rw [if_neg h0]
            simp only [Sem.run_bind, hzv, Result.andThen_ok, Sem.run_pure]
            simp only [base] at hr'
            rw [← hz1] at hr'
            rw [hr']
            simp [newRow]
          refine ⟨_, _, Γ, ρ.add nx (some w.heap.size) none, _, hrun, .inl rfl, ?_, by simp [SV.bd], ?_, Env.add_same _ _ _ _, Nat.le_succ _, Stp.alloc hi _ _ _, Gh.le_refl _, fun _ hb => .inl hb⟩
          · simp only [Den]; exact ⟨_, len, 0, Env.add_blk _ _ _ _, fun _ => by simp, rfl⟩
          · refine hi.alloc _ none (.cells (xs.map (evo fr)) e) ⟨w.heap.size, r, Env.add_blk _ _ _ _, by rw [heap_alloc_new], ?_, by rw [hrl']; exact hone, ?_⟩ (bdL_mono (Nat.le_succ _) _ hd2)
            · rw [hrl']; exact DenL.ext (Gh.le_refl _) _ _ (Env.add_same _ _ _ _) hd2 hd1
            · cases hq : Γ w.heap.size with
              | none => rfl
              | some cs' => exact absurd (hi.lt hq) (Nat.lt_irrefl _)
        · cases h
      · cases h
    · cases h
  · cases h

def xidxc (T : Tab) (fr : Fr) (mem : Mem) (nx : Nat) (t : Nat) (x i : Operand) : R :=
  match fnd T t, evo fr i with
  | some ti, .int _ n => match ti.d with
    | .slice e => match fnd T e, evo fr x with
      | some ei, .osub r 1 lo cnt => match Nat.beq ei.cells 1 with
        | true => some (.loc r (lo + n.toNat), mem, nx, 0 ≤ n ∧ n < (cnt : Int))
        | false => none
      | _, _ => none
    | _ => none
  | _, _ => none
theorem ok_idxc (hT : TabOk P T) {t : Nat} {x i : Operand} (ho : o.op = .indexAddr t x i) {sv : SV} {mem' : Mem} {nx' : Nat} {k : Prop} (h : xidxc T fr mem nx t x i = some (sv, mem', nx', k)) (hk : k) : OpOk P N fr mem nx o sv mem' nx' := by
  unfold xidxc at h
  split at h
  · rename_i ti ki n hti hi'
    have hdesc := (hT t ti hti).desc
    split at h
    · rename_i e hd
      rw [hd] at hdesc; simp only [DescOk] at hdesc
      split at h
      · rename_i ei r lo cnt he hx
        split at h
        · rename_i hz
          have hz : ei.cells = 1 := Nat.eq_of_beq_eq_true hz
          simp only [Option.some.injEq, Prod.mk.injEq] at h
          obtain ⟨rfl, rfl, rfl, rfl⟩ := h
          obtain ⟨hk1, hk2⟩ := hk
          refine OpOk.pure fun Γ ρ w a hi hf => ?_
          obtain ⟨h1, h1'⟩ := evo_den hf x
          rw [hx] at h1 h1'; simp only [Den] at h1
          obtain ⟨b, cap, off, g1, g2, hv⟩ := h1
          have h2 := (evo_den hf i).1
          rw [hi'] at h2; simp only [Den] at h2
          have g3 := g2 (by omega)
          subst g3
          refine ⟨.pointer (some ⟨b, lo + n.toNat, none⟩), ?_, ?_, by simpa [SV.bd] using h1'⟩
          · simp [execOp, ho, hv, h2, Instr.indexAt, asIntOf, run_underlying hdesc, hk1, hk2, (hT e ei he).sizeOf, add_addr, hz]
          · simp only [Den]; exact ⟨b, g1, rfl⟩
        · cases h
      · cases h
    · cases h
  · cases h

def xlenc (T : Tab) (fr : Fr) (mem : Mem) (nx : Nat) (t : Nat) (x : Operand) (q : SV) : R :=
  match fnd T t, q with
  | some ti, .int _ r => match ti.d with
    | .slice _ => match evo fr x with
      | .osub _ _ _ n => some (.int .i64 r, mem, nx, ((n : Nat) : Int) = r)
      | _ => none
    | _ => none
  | _, _ => none
theorem ok_lenc (hT : TabOk P T) {t : Nat} {x : Operand} (ho : o.op = .call { callee := .builtin .len, args := #[x], argTypes := #[t] }) {q sv : SV} {mem' : Mem} {nx' : Nat} {k : Prop} (h : xlenc T fr mem nx t x q = some (sv, mem', nx', k)) (hk : k) : OpOk P N fr mem nx o sv mem' nx' := by
  unfold xlenc at h
  split at h
  · rename_i ti k0 r hti
    have hdesc := (hT t ti hti).desc
    split at h
    · rename_i e hd
      rw [hd] at hdesc; simp only [DescOk] at hdesc
      split at h
      · rename_i r' z lo n hx
        simp only [Option.some.injEq, Prod.mk.injEq] at h
        obtain ⟨rfl, rfl, rfl, rfl⟩ := h
        refine OpOk.pure fun Γ ρ w a hi hf => ⟨.int .i64 r, run_len w r ?_ ho, by simp only [Den], rfl⟩
        have h1 := (evo_den hf x).1
        rw [hx] at h1; simp only [Den] at h1
        obtain ⟨b, cap, off, g1, g2, hv⟩ := h1
        simp [Builtin.len_, run_underlying hdesc, hv, goInt, ← hk]
      · cases h
    · cases h
  · cases h
end

section
variable {P : Program} {T : Tab} {N : Nat} {fr : Fr} {mem : Mem} {nx : Nat} {o : Oper}

def xclear (T : Tab) (fr : Fr) (mem : Mem) (nx : Nat) (t : Nat) (x : Operand) : R :=
  match fnd T t with
  | some ti => match ti.d with
    | .slice e => match fnd T e, evo fr x with
      | some ei, .osub r 1 lo n => match fnd mem r, ei.zero, Nat.beq ei.cells 1 with
        | some (.row 1 E xs), [z], true => match z.bd 0 with
          | true => some (.tup [], upd mem r (.row 1 E (xs.take lo ++ List.replicate n z ++ xs.drop (lo + n))), nx, lo + n = xs.length)
          | false => none
        | _, _, _ => none
      | _, _ => none
    | _ => none
  | none => none

theorem DenE.rep {Γ : Gh} {z : SV} {v : Value} (h : Den Γ Env.nil z v) (h1 : v.oneCell' = true) : ∀ n, DenE Γ 1 (List.replicate n z) (List.replicate n v)
  | 0 => by simp [DenE]
  | n + 1 => by
    simp only [List.replicate_succ, DenE]
    refine ⟨⟨v, h, by rw [cells_of_one h1]; rfl, by rw [cells_of_one h1]; simp⟩, ?_⟩
    simpa using DenE.rep h h1 n

theorem ok_clear (hT : TabOk P T) {t : Nat} {x : Operand} (ho : o.op = .call { callee := .builtin .clear, args := #[x], argTypes := #[t] }) {sv : SV} {mem' : Mem} {nx' : Nat} {k : Prop} (h : xclear T fr mem nx t x = some (sv, mem', nx', k)) (hk : k) : OpOk P N fr mem nx o sv mem' nx' := by
  unfold xclear at h
  split at h
  · rename_i ti hti
    have hdesc := (hT t ti hti).desc
    split at h
    · rename_i e hd
      rw [hd] at hdesc; simp only [DescOk] at hdesc
      split at h
      · rename_i ei r lo n hei hx
        split at h
        · rename_i E xs z hr hzero hz
          have hz : ei.cells = 1 := Nat.eq_of_beq_eq_true hz
          split at h
          · rename_i hzb
            simp only [Option.some.injEq, Prod.mk.injEq] at h
            obtain ⟨rfl, rfl, rfl, rfl⟩ := h
            intro Γ ρ w a hi hf
            have g := (evo_den hf x).1
            rw [hx] at g; simp only [Den] at g
            obtain ⟨b, cap, off, g1, g2, g3⟩ := g
            obtain ⟨zv, hzv, hzc⟩ := (hT e ei hei).zeroValue
            rw [hzero] at hzc
            obtain ⟨v, hv⟩ : ∃ v, zv.cells.toList = [v] := by
              have := congrArg List.length hzc
              simp only [List.length_map, List.length_cons, List.length_nil, Array.length_toList] at this
              exact List.length_eq_one_iff.1 (by simpa using this)
            obtain ⟨hd1, hd2, hd3, hd4⟩ := consts_den (Γ := Γ) (ρ := Env.nil) (n := 0) hzc
            rw [hv] at hd1 hd2
            have hv1 : v.oneCell' = true := hd2 v (by simp)
            have hdv : Den Γ Env.nil z v := by
              simp only [DenL] at hd1
              obtain ⟨u, r', e1, e2, _⟩ := hd1
              cases e1; exact e2
            obtain ⟨v', h1, h2⟩ := (hi.priv r _ hr).1
            by_cases hn : n = 0
            · subst hn
              have e0 : xs.take lo ++ List.replicate 0 z ++ xs.drop (lo + 0) = xs := by simp
              have hsame : ∀ m, fnd (upd mem r (.row 1 E (xs.take lo ++ List.replicate 0 z ++ xs.drop (lo + 0)))) m = fnd mem m := fun m => by
                rw [fnd_upd mem r m _ (by rw [hr]; rfl), e0]
                split
                · rename_i e; subst e; exact hr.symm
                · rfl
              refine ⟨.tuple #[], .value (.tuple #[]), Γ, ρ, w, ?_, .inl rfl, by simp only [Den]; exact ⟨#[], rfl, by simp [DenL]⟩, rfl, ?_, Env.same_refl _ _, Nat.le_refl _, ?_, Gh.le_refl _, fun _ hb => .inl hb⟩
              · simp [execOp, ho, resolve, invoke, builtin, g3, Builtin.clear_, run_underlying hdesc]
              · exact ⟨hi.pub, fun m B h => by rw [hsame] at h; exact hi.priv m B h, fun m m' c B B' h h' => by rw [hsame] at h h'; exact hi.inj m m' c B B' h h'⟩
              · exact ⟨rfl, rfl, rfl, Nat.le_refl _, fun _ _ _ => rfl, fun c hc => by
                  obtain ⟨m, B, h, hb⟩ := hc
                  rw [hsame] at h; exact .inl ⟨m, B, h, hb⟩⟩
            · have g2 := g2 hn
              rw [Nat.mul_one] at g2
              rw [g2] at g3
              rcases h2 with ⟨_, rfl, _⟩ | ⟨b', arr, cap', hb', _, hheap, hcap, hsz, hE, hone, hΓ⟩
              · simp at hk; omega
              rw [g1] at hb'; cases hb'
              have hzr : (Builtin.zeroCells zv.cells n).toList = List.replicate n v := by
                have hz1 : zv.cells = #[v] := by apply Array.toList_inj.1; simpa using hv
                rw [hz1]
                apply List.ext_getElem
                · simp [Builtin.zeroCells]
                · intro i h1 h2
                  simp [Builtin.zeroCells, Nat.mod_one]
              have hones : ∀ c ∈ List.replicate n v, c.oneCell' = true := fun c hc => by rw [List.eq_of_mem_replicate hc]; exact hv1
              have hrun := run_storeCells_at (P := P) b lo E (List.replicate n v) 0 arr w hheap (by simp at hsz ⊢; omega) hones
              simp only [Nat.add_zero, List.length_replicate] at hrun
              refine ⟨.tuple #[], .value (.tuple #[]), Γ, ρ, w.setRow b (arr.toList.take lo ++ List.replicate n v ++ arr.toList.drop (lo + n)).toArray, ?_, .inl rfl, by simp only [Den]; exact ⟨#[], rfl, by simp [DenL]⟩, rfl, ?_, Env.same_refl _ _, Nat.le_refl _, ?_, Gh.le_refl _, fun _ hb => .inl hb⟩
              · obtain ⟨m, rfl⟩ : ∃ m, n = m + 1 := ⟨n - 1, by omega⟩
                simp [execOp, ho, resolve, invoke, builtin, g3, Builtin.clear_, run_underlying hdesc, hzv, hzr, hrun]
              · refine hi.set hr g1 hΓ _ (fun k hk => setRow_other w b k _ hk) ⟨v', h1, .inr ⟨b, _, cap', g1, by
                  have hl : (xs.take lo ++ List.replicate n z ++ xs.drop (lo + n)).length = xs.length := by simp; omega
                  rw [hl]; assumption, setRow_heap w b arr _ E _ hheap, ?_, ?_, ?_, ?_, hΓ⟩⟩ rfl
                · simp; omega
                · simp at hsz ⊢; omega
                · have := DenE.splice (lo := lo) hE (ys := List.replicate n z) (by simp; omega) (by simp at hsz ⊢; omega) (DenE.rep hdv hv1 n) (by simp)
                  simpa using this
                · intro c hc
                  simp only [List.mem_append] at hc
                  rcases hc with (hc | hc) | hc
                  · exact hone c (List.mem_of_mem_take hc)
                  · exact hones c hc
                  · exact hone c (List.mem_of_mem_drop hc)
              · exact Stp.set _ hr g1 rfl rfl rfl (by simp) (fun k hk => setRow_other w b k _ hk)
          · cases h
        · cases h
      · cases h
    · cases h
  · cases h
end
end Go.Proofs.Ytjchmajamlehmaa.X
