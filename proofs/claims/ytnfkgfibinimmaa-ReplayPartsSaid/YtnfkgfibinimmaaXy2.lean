/- clear of the rest of one's own row. -/
import Derived.Test.YtnfkgfibinimmaaXy1
namespace Go.Proofs.Ytnfkgfibinimmaa.X
open Go Go.RowKit

section
variable {P : Program} {T : Tab} {N : Nat} {fr : Fr} {mem : Mem} {nx : Nat} {o : Oper}

def xclear (T : Tab) (fr : Fr) (mem : Mem) (nx : Nat) (t : Nat) (x : Operand) : R :=
  match fnd T t with
  | some ti => match ti.d with
    | .slice e => match fnd T e, evo fr x with
      | some ei, .osub r 1 lo n => match fnd mem r, ei.zero, Nat.beq ei.cells 1 with
        | some (.row 1 E xs), [z], true => match z.bd 0 with
          | true => some (.tup [], upd mem r (.row 1 E (xs.take lo ++ List.replicate n z ++ xs.drop (lo + n))), nx, lo + n = xs.length)
          | false => none
        | _, _, _ => none
      | _, _ => none
    | _ => none
  | none => none

theorem DenE.rep {Γ : Gh} {z : SV} {v : Value} (h : Den Γ Env.nil z v) (h1 : v.oneCell' = true) : ∀ n, DenE Γ 1 (List.replicate n z) (List.replicate n v)
  | 0 => by simp [DenE]
  | n + 1 => by
    simp only [List.replicate_succ, DenE]
    refine ⟨⟨v, h, by rw [cells_of_one h1]; rfl, by rw [cells_of_one h1]; simp⟩, ?_⟩
    simpa using DenE.rep h h1 n

theorem ok_clear (hT : TabOk P T) {t : Nat} {x : Operand} (ho : o.op = .call { callee := .builtin .clear, args := #[x], argTypes := #[t] }) {sv : SV} {mem' : Mem} {nx' : Nat} {k : Prop} (h : xclear T fr mem nx t x = some (sv, mem', nx', k)) (hk : k) : OpOk P N fr mem nx o sv mem' nx' := by
  unfold xclear at h
  split at h
  · rename_i ti hti
    have hdesc := (hT t ti hti).desc
    split at h
    · rename_i e hd
      rw [hd] at hdesc; simp only [DescOk] at hdesc
      split at h
      · rename_i ei r lo n hei hx
        split at h
        · rename_i E xs z hr hzero hz
          have hz : ei.cells = 1 := Nat.eq_of_beq_eq_true hz
          split at h
          · rename_i hzb
            simp only [Option.some.injEq, Prod.mk.injEq] at h
            obtain ⟨rfl, rfl, rfl, rfl⟩ := h
            intro Γ ρ w a hi hf
            have g := (evo_den hf x).1
            rw [hx] at g; simp only [Den] at g
            obtain ⟨b, cap, off, g1, g2, g3⟩ := g
            obtain ⟨zv, hzv, hzc⟩ := (hT e ei hei).zeroValue
            rw [hzero] at hzc
            obtain ⟨v, hv⟩ : ∃ v, zv.cells.toList = [v] := by
              have := congrArg List.length hzc
              simp only [List.length_map, List.length_cons, List.length_nil, Array.length_toList] at this
              exact List.length_eq_one_iff.1 (by simpa using this)
            obtain ⟨hd1, hd2, hd3, hd4⟩ := consts_den (Γ := Γ) (ρ := Env.nil) (n := 0) hzc
            rw [hv] at hd1 hd2
            have hv1 : v.oneCell' = true := hd2 v (by simp)
            have hdv : Den Γ Env.nil z v := by
              simp only [DenL] at hd1
              obtain ⟨u, r', e1, e2, _⟩ := hd1
              cases e1; exact e2
            obtain ⟨v', h1, h2⟩ := (hi.priv r _ hr).1
            by_cases hn : n = 0
            · subst hn
              have e0 : xs.take lo ++ List.replicate 0 z ++ xs.drop (lo + 0) = xs := by simp
              have hsame : ∀ m, fnd (upd mem r (.row 1 E (xs.take lo ++ List.replicate 0 z ++ xs.drop (lo + 0)))) m = fnd mem m := fun m => by
                rw [fnd_upd mem r m _ (by rw [hr]; rfl), e0]
                split
                · rename_i e; subst e; exact hr.symm
                · rfl
              refine ⟨.tuple #[], .value (.tuple #[]), Γ, ρ, w, ?_, .inl rfl, by simp only [Den]; exact ⟨#[], rfl, by simp [DenL]⟩, rfl, ?_, Env.same_refl _ _, Nat.le_refl _, ?_, Gh.le_refl _, fun _ hb => .inl hb⟩
              · simp [execOp, ho, resolve, invoke, builtin, g3, Builtin.clear_, run_underlying hdesc]
              · exact ⟨hi.pub, fun m B h => by rw [hsame] at h; exact hi.priv m B h, fun m m' c B B' h h' => by rw [hsame] at h h'; exact hi.inj m m' c B B' h h'⟩
              · exact ⟨rfl, rfl, rfl, Nat.le_refl _, fun _ _ _ => rfl, fun c hc => by
                  obtain ⟨m, B, h, hb⟩ := hc
                  rw [hsame] at h; exact .inl ⟨m, B, h, hb⟩⟩
            · have g2 := g2 hn
              rw [Nat.mul_one] at g2
              rw [g2] at g3
              rcases h2 with ⟨_, rfl, _⟩ | ⟨b', arr, cap', hb', _, hheap, hcap, hsz, hE, hone, hΓ⟩
              · simp at hk; omega
              rw [g1] at hb'; cases hb'
              have hzr : (Builtin.zeroCells zv.cells n).toList = List.replicate n v := by
                have hz1 : zv.cells = #[v] := by apply Array.toList_inj.1; simpa using hv
                rw [hz1]
                apply List.ext_getElem
                · simp [Builtin.zeroCells]
                · intro i h1 h2
                  simp [Builtin.zeroCells, Nat.mod_one]
              have hones : ∀ c ∈ List.replicate n v, c.oneCell' = true := fun c hc => by rw [List.eq_of_mem_replicate hc]; exact hv1
              have hrun := run_storeCells_at (P := P) b lo E (List.replicate n v) 0 arr w hheap (by simp at hsz ⊢; omega) hones
              simp only [Nat.add_zero, List.length_replicate] at hrun
              refine ⟨.tuple #[], .value (.tuple #[]), Γ, ρ, w.setRow b (arr.toList.take lo ++ List.replicate n v ++ arr.toList.drop (lo + n)).toArray, ?_, .inl rfl, by simp only [Den]; exact ⟨#[], rfl, by simp [DenL]⟩, rfl, ?_, Env.same_refl _ _, Nat.le_refl _, ?_, Gh.le_refl _, fun _ hb => .inl hb⟩
              · obtain ⟨m, rfl⟩ : ∃ m, n = m + 1 := ⟨n - 1, by omega⟩
                simp [execOp, ho, resolve, invoke, builtin, g3, Builtin.clear_, run_underlying hdesc, hzv, hzr, hrun]
              · refine hi.set hr g1 hΓ _ (fun k hk => setRow_other w b k _ hk) ⟨v', h1, .inr ⟨b, _, cap', g1, by
                  have hl : (xs.take lo ++ List.replicate n z ++ xs.drop (lo + n)).length = xs.length := by simp; omega
                  rw [hl]; assumption, setRow_heap w b arr _ E _ hheap, ?_, ?_, ?_, ?_, hΓ⟩⟩ rfl
                · simp; omega
                · simp at hsz ⊢; omega
                · have := DenE.splice (lo := lo) hE (ys := List.replicate n z) (by simp; omega) (by simp at hsz ⊢; omega) (DenE.rep hdv hv1 n) (by simp)
                  simpa using this
                · intro c hc
                  simp only [List.mem_append] at hc
                  rcases hc with (hc | hc) | hc
                  · exact hone c (List.mem_of_mem_take hc)
                  · exact hones c hc
                  · exact hone c (List.mem_of_mem_drop hc)
              · exact Stp.set _ hr g1 rfl rfl rfl (by simp) (fun k hk => setRow_other w b k _ hk)
          · cases h
        · cases h
      · cases h
    · cases h
  · cases h
end
end Go.Proofs.Ytnfkgfibinimmaa.X
