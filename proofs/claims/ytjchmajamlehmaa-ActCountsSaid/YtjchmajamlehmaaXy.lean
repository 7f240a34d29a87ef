/- Parts of one's own rows: x[lo:] to copy into; x[:hi]; copy; a slice that is not empty against nil. -/
import Derived.Test.YtjchmajamlehmaaXl
import Derived.Laws.CopyRow
import Derived.Laws.Cover3
namespace Go.Proofs.Ytjchmajamlehmaa.X
open Go Go.RowKit

section
variable {P : Program} {T : Tab} {N : Nat} {fr : Fr} {mem : Mem} {nx : Nat} {o : Oper}

theorem row_val {Γ : Gh} {ρ : Env} {w : World} (hi : Inv Γ ρ nx mem w) {r z E : Nat} {xs : List SV} (hr : fnd mem r = some (.row z E xs)) (hne : xs ≠ []) {v : Value} (hv : Den Γ ρ (.own r) v) :
    ∃ b arr cap, ρ.blk r = some b ∧ v = .slice (some ⟨b, 0, none⟩) xs.length cap ∧ w.heap[b]? = some (.cells arr E (0, 0)) ∧ xs.length ≤ cap ∧ arr.size = cap * z ∧ DenE Γ z xs arr.toList ∧ (∀ c ∈ arr.toList, c.oneCell' = true) ∧ Γ b = none := by
  simp only [Den] at hv
  obtain ⟨v', h1, h2⟩ := (hi.priv r _ hr).1
  rw [hv.1] at h1
  cases h1
  rcases h2 with ⟨_, h, _⟩ | ⟨b, arr, cap, h⟩
  · exact absurd h hne
  · exact ⟨b, arr, cap, h⟩

def xosub (T : Tab) (fr : Fr) (mem : Mem) (nx : Nat) (t : Nat) (x : Operand) (lo : Option Operand) : R :=
  match fnd T t with
  | some ti => match ti.d with
    | .slice e => match fnd T e, bnd fr lo, evo fr x with
      | some ei, some l, .own r => match fnd mem r with
        | some (.row z _ xs) => match Nat.beq z ei.cells with
          | true => some (.osub r z (l.getD 0).toNat (xs.length - (l.getD 0).toNat), mem, nx, 0 ≤ l.getD 0 ∧ l.getD 0 ≤ (xs.length : Int) ∧ xs ≠ [])
          | false => none
        | _ => none
      | _, _, _ => none
    | _ => none
  | none => none

theorem ok_osub (hT : TabOk P T) {t : Nat} {x : Operand} {lo : Option Operand} (ho : o.op = .slice t x lo none none) {sv : SV} {mem' : Mem} {nx' : Nat} {k : Prop} (h : xosub T fr mem nx t x lo = some (sv, mem', nx', k)) (hk : k) : OpOk P N fr mem nx o sv mem' nx' := by
  unfold xosub at h
  split at h
  · rename_i ti hti
    have hdesc := (hT t ti hti).desc
    split at h
    · rename_i e hd
      rw [hd] at hdesc; simp only [DescOk] at hdesc
      split at h
      · rename_i ei l r hei hbl hx
        split at h
        · rename_i z E xs hr
          split at h
          · rename_i hz
            have hz : z = ei.cells := Nat.eq_of_beq_eq_true hz
            have hse := (hT e ei hei).sizeOf
            have hund : ∀ w, (underlying t).run P w = .ok (.slice e) w := run_underlying hdesc
            simp only [Option.some.injEq, Prod.mk.injEq] at h
            obtain ⟨rfl, rfl, rfl, rfl⟩ := h
            obtain ⟨k1, k2, k3⟩ := hk
            refine OpOk.pure fun Γ ρ w a hi hf => ?_
            obtain ⟨g, gb⟩ := evo_den hf x
            rw [hx] at g gb
            obtain ⟨b, arr, cap, h1, hv, h2, h3, h4, h5, h6, h7⟩ := row_val hi hr k3 g
            refine ⟨.slice (some ⟨b, if cap = (l.getD 0).toNat then 0 else (l.getD 0).toNat * z, none⟩) (xs.length - (l.getD 0).toNat) (cap - (l.getD 0).toNat), ?_, ?_, by simpa [SV.bd] using gb⟩
            · rcases bnd_den hf hbl with ⟨rfl, rfl⟩ | ⟨lx', lk', li'', rfl, rfl, lev⟩
              · simp [execOp, ho, hv, Instr.sliceAt, Instr.slice, hund, Instr.sliceBounds, hse]
                exact fun _ => by simp [Addr.add]
              · have hm3 := run_bound (P := P) (k := lk') (i := li'') (y := xs.length) (c := .sliceB) w (by simpa using k1) (by simpa using k2)
                simp only [Option.getD_some]
                by_cases hc : cap = li''.toNat
                · simp [execOp, ho, hv, Instr.sliceAt, Instr.slice, hund, Instr.sliceBounds, lev, hm3, hse, hc]
                · simp [execOp, ho, hv, Instr.sliceAt, Instr.slice, hund, Instr.sliceBounds, lev, hm3, hse, hz, hc, add_addr]
            · simp only [Den]
              refine ⟨b, _, _, h1, fun hn => ?_, rfl⟩
              have : cap ≠ (l.getD 0).toNat := by omega
              simp [this]
          · cases h
        · cases h
      · cases h
    · cases h
  · cases h

def xpre (T : Tab) (fr : Fr) (mem : Mem) (nx : Nat) (t : Nat) (x hi : Operand) : R :=
  match fnd T t with
  | some ti => match ti.d with
    | .slice e => match fnd T e, evo fr hi, evo fr x with
      | some ei, .int _ h, .own r => match fnd mem r with
        | some (.row z E xs) => match Nat.beq z ei.cells with
          | true => some (.own nx, (nx, .row z E (xs.take h.toNat)) :: del mem r, nx + 1, 0 ≤ h ∧ h ≤ (xs.length : Int) ∧ xs ≠ [])
          | false => none
        | _ => none
      | _, _, _ => none
    | _ => none
  | none => none

theorem ok_pre (hT : TabOk P T) {t : Nat} {x hx : Operand} (ho : o.op = .slice t x none (some hx) none) {sv : SV} {mem' : Mem} {nx' : Nat} {k : Prop} (h : xpre T fr mem nx t x hx = some (sv, mem', nx', k)) (hk : k) : OpOk P N fr mem nx o sv mem' nx' := by
  unfold xpre at h
  split at h
  · rename_i ti hti
    have hdesc := (hT t ti hti).desc
    split at h
    · rename_i e hd
      rw [hd] at hdesc; simp only [DescOk] at hdesc
      split at h
      · rename_i ei kk hh r hei hbh hxx
        split at h
        · rename_i z E xs hr
          split at h
          · rename_i hz
            have hz : z = ei.cells := Nat.eq_of_beq_eq_true hz
            have hse := (hT e ei hei).sizeOf
            have hund : ∀ w, (underlying t).run P w = .ok (.slice e) w := run_underlying hdesc
            simp only [Option.some.injEq, Prod.mk.injEq] at h
            obtain ⟨rfl, rfl, rfl, rfl⟩ := h
            obtain ⟨k1, k2, k3⟩ := hk
            intro Γ ρ w a hi hf
            obtain ⟨g, gb⟩ := evo_den hf x
            rw [hxx] at g
            obtain ⟨b, arr, cap, h1, hv, h2, h3, h4, h5, h6, h7⟩ := row_val hi hr k3 g
            have hev : a.eval hx = .int kk hh := by
              have := (evo_den hf hx).1
              rw [hbh] at this; simpa only [Den] using this
            have hno : ¬ Owned ρ (del mem r) b := by
              rintro ⟨r', B, hB, hb'⟩
              rw [fnd_del] at hB
              split at hB
              · cases hB
              · rename_i hne; exact hne (hi.inj r' r b B _ hB hr hb' h1)
            have hlen : (xs.take hh.toNat).length = hh.toNat := by simp; omega
            have hm1 := run_bound (P := P) (k := kk) (i := hh) (y := cap) (c := .sliceAcap) w k1 (by omega)
            exact leaves_same (hi.del r) (Stp.del r) ⟨r, _, hr, h1⟩ hno h7 (cap := cap) (arr := arr) (E := E) (z := z)
              (by simp [execOp, ho, hv, Instr.sliceAt, Instr.slice, hund, Instr.sliceBounds, hev, hm1, hse, hlen]; exact fun _ => by simp [Addr.add]) rfl rfl rfl rfl (fun _ _ => rfl) h2 (by omega) h4 (h5.take _) h6
          · cases h
        · cases h
      · cases h
    · cases h
  · cases h

def xcopy (T : Tab) (fr : Fr) (mem : Mem) (nx : Nat) (t1 : Nat) (x y : Operand) (q : SV) : R :=
  match fnd T t1, q with
  | some ti, .int _ res => match ti.d with
    | .slice e => match fnd T e, evo fr x, evo fr y with
      | some ei, .osub r 1 lo n, .sl _ 1 ys => match fnd mem r, Nat.beq ei.cells 1 with
        | some (.row 1 E xs), true => some (.int .i64 res, upd mem r (.row 1 E (xs.take lo ++ ys.take n ++ xs.drop (lo + (ys.take n).length))), nx,
            (((ys.take n).length : Nat) : Int) = res ∧ lo + n = xs.length ∧ 1 ≤ n ∧ 1 ≤ ys.length ∧ ∀ y ∈ ys, ElemOk y)
        | _, _ => none
      | _, _, _ => none
    | _ => none
  | _, _ => none

theorem DenE.splice {Γ : Gh} {xs ys : List SV} {cs ds : List Value} {lo : Nat} (h : DenE Γ 1 xs cs) (hl : lo + ys.length ≤ xs.length) (hc : xs.length ≤ cs.length) (h2 : DenE Γ 1 ys ds) (hd : ds.length = ys.length) :
    DenE Γ 1 (xs.take lo ++ ys ++ xs.drop (lo + ys.length)) (cs.take lo ++ ds ++ cs.drop (lo + ds.length)) := by
  have h3 := (h.take lo).take_len
  have hlen : (xs.take lo).length * 1 = lo := by simp; omega
  rw [hlen] at h3
  have h4 := h3.append (by simp; omega) h2
  have h5 := h.drop (lo + ys.length)
  rw [Nat.mul_one] at h5
  rw [hd]
  exact h4.append (by simp; omega) h5

theorem ok_copy (hT : TabOk P T) {t1 t2 : Nat} {x y : Operand} (ho : o.op = .call { callee := .builtin .copy, args := #[x, y], argTypes := #[t1, t2] }) {q sv : SV} {mem' : Mem} {nx' : Nat} {k : Prop} (h : xcopy T fr mem nx t1 x y q = some (sv, mem', nx', k)) (hk : k) : OpOk P N fr mem nx o sv mem' nx' := by
  unfold xcopy at h
  split at h
  · rename_i ti kk res hti
    have hdesc := (hT t1 ti hti).desc
    split at h
    · rename_i e hd
      rw [hd] at hdesc; simp only [DescOk] at hdesc
      split at h
      · rename_i ei r lo n xb ys hei hx hy
        split at h
        · rename_i E xs hr hz
          have hz : ei.cells = 1 := Nat.eq_of_beq_eq_true hz
          simp only [Option.some.injEq, Prod.mk.injEq] at h
          obtain ⟨rfl, rfl, rfl, rfl⟩ := h
          obtain ⟨k1, k2, k3, k4, k5⟩ := hk
          intro Γ ρ w a hi hf
          have g := (evo_den hf x).1
          rw [hx] at g; simp only [Den] at g
          obtain ⟨b, cap, off, g1, g2, g3⟩ := g
          have g2 := g2 (by omega)
          rw [Nat.mul_one] at g2
          rw [g2] at g3
          have gy := (evo_den hf y).1
          rw [hy] at gy; simp only [Den] at gy
          rcases gy with ⟨_, _, rfl⟩ | ⟨sb, so, scap, cs, sv, s1, s2, s3, s4, s5⟩
          · simp at k4
          obtain ⟨v', h1, h2⟩ := (hi.priv r _ hr).1
          rcases h2 with ⟨_, rfl, _⟩ | ⟨b', arr, cap', hb', _, hheap, hcap, hsz, hE, hone, hΓ⟩
          · simp at k2; omega
          rw [g1] at hb'; cases hb'
          obtain ⟨sE, sfz, hs⟩ := hi.pub sb cs s3
          have hml : (ys.take n).length = Nat.min ys.length n := by simp [Nat.min_comm]
          have hnews : ((cs.drop so).take (ys.take n).length).length = (ys.take n).length := by simp; omega
          have hsize : (P.info? e).map (·.size) = some 1 := by
            have hi2 := (hT e ei hei).info
            cases hq : P.info? e with
            | none => rw [hq] at hi2; cases hi2
            | some i => rw [hq] at hi2; simp at hi2; simp [hi2.1, hz]
          have hone2 : ∀ c ∈ (cs.drop so).take (ys.take n).length, c.oneCell' = true := fun c hc => by
            refine DenE.one (z := 1) s5 k5 c ?_
            rw [Nat.mul_one]
            have hle : (ys.take n).length ≤ ys.length := by simp; omega
            exact List.mem_of_mem_take (i := (ys.take n).length) (by rw [List.take_take, Nat.min_eq_left hle]; exact hc)
          have hE2 : DenE Γ 1 (ys.take n) ((cs.drop so).take (ys.take n).length) := by
            have := (s5.take n).take_len
            rwa [Nat.mul_one] at this
          have hrun := run_copy_row (P := P) w t1 t2 o.type e b lo n cap ⟨sb, so, none⟩ ys.length scap arr E ((cs.drop so).take (ys.take n).length) hdesc hsize hheap (by rw [hnews, hml]) (fun j v hj => by
              have hj2 : j < (ys.take n).length := by have := (List.getElem?_eq_some_iff.1 hj).1; omega
              rw [List.getElem?_take_of_lt hj2, List.getElem?_drop] at hj
              have hadd : Addr.add ⟨sb, so, none⟩ j = ⟨sb, so + j, none⟩ := by unfold Addr.add; split <;> simp_all
              rw [hadd]
              simpa [World.cell?, hs] using hj) (by rw [hnews]; simp at hsz ⊢; omega) hone2
          rw [hnews] at hrun
          refine ⟨.int .i64 res, .value (.int .i64 res), Γ, ρ, w.setRow b (arr.toList.take lo ++ (cs.drop so).take (ys.take n).length ++ arr.toList.drop (lo + (ys.take n).length)).toArray, ?_, .inl rfl, by simp only [Den], rfl, ?_, Env.same_refl _ _, Nat.le_refl _, ?_, Gh.le_refl _, fun _ hb => .inl hb⟩
          · simp only [execOp, ho, resolve]
            simp [invoke, builtin, g3, sv, hrun, goInt]
            simpa using k1
          · refine hi.set hr g1 hΓ _ (fun k hk => setRow_other w b k _ hk) ⟨v', h1, .inr ⟨b, _, cap', g1, by
              have hl : (xs.take lo ++ ys.take n ++ xs.drop (lo + (ys.take n).length)).length = xs.length := by simp; omega
              rw [hl]; assumption, setRow_heap w b arr _ E _ hheap, ?_, ?_, ?_, ?_, hΓ⟩⟩ rfl
            · simp; omega
            · simp at hsz ⊢; omega
            · have := DenE.splice (lo := lo) hE (ys := ys.take n) (by simp; omega) (by simp at hsz ⊢; omega) hE2 hnews
              rw [hnews] at this
              simpa using this
            · intro c hc
              simp only [List.mem_append] at hc
              rcases hc with (hc | hc) | hc
              · exact hone c (List.mem_of_mem_take hc)
              · exact hone2 c hc
              · exact hone c (List.mem_of_mem_drop hc)
          · exact Stp.set _ hr g1 rfl rfl rfl (by simp) (fun k hk => setRow_other w b k _ hk)
        · cases h
      · cases h
    · cases h
  · cases h

def xnilcmp (T : Tab) (fr : Fr) (mem : Mem) (nx : Nat) (ne : Bool) (t : Nat) (x y : Operand) : R :=
  match fnd T t with
  | some ti => match ti.d, evo fr x, evo fr y with
    | .slice _, .sl _ _ xs, .nils => some (.bool ne, mem, nx, xs ≠ [])
    | .slice _, .own r, .nils => match fnd mem r with
      | some (.row _ _ xs) => some (.bool ne, mem, nx, xs ≠ [])
      | _ => none
    | .slice _, .nils, .nils => some (.bool (!ne), mem, nx, True)
    | _, _, _ => none
  | none => none
theorem run_cmp_slice {t e : Nat} (h : P.underlying t = some (.slice e)) (w : World) (a : Addr) (l c : Nat) (ne : Bool) : (binOp (bif ne then .neq else .eql) t (.slice (some a) l c) (.slice none 0 0)).run P w = .ok (.bool ne) w := by
  cases ne
  · simp only [cond_false, binOp]
    simp [run_equal_slice_nil w t e (some a) l c h]
  · simp only [cond_true, binOp]
    simp [run_equal_slice_nil w t e (some a) l c h]
theorem run_cmp_nil {t e : Nat} (h : P.underlying t = some (.slice e)) (w : World) (ne : Bool) : (binOp (bif ne then .neq else .eql) t (.slice none 0 0) (.slice none 0 0)).run P w = .ok (.bool (!ne)) w := by
  cases ne
  · simp only [cond_false, binOp]
    simp [run_equal_slice_nil w t e none 0 0 h]
  · simp only [cond_true, binOp]
    simp [run_equal_slice_nil w t e none 0 0 h]

theorem ok_nilcmp (hT : TabOk P T) {ne : Bool} {t yt : Nat} {x y : Operand} (ho : o.op = .binOp (bif ne then .neq else .eql) t x y yt) {sv : SV} {mem' : Mem} {nx' : Nat} {k : Prop} (h : xnilcmp T fr mem nx ne t x y = some (sv, mem', nx', k)) (hk : k) : OpOk P N fr mem nx o sv mem' nx' := by
  unfold xnilcmp at h
  split at h
  · rename_i ti hti
    have hdesc := (hT t ti hti).desc
    split at h
    · rename_i e z zz xs hd hx hy
      rw [hd] at hdesc; simp only [DescOk] at hdesc
      simp only [Option.some.injEq, Prod.mk.injEq] at h
      obtain ⟨rfl, rfl, rfl, rfl⟩ := h
      refine OpOk.pure fun Γ ρ w a hi hf => ?_
      have g := (evo_den hf x).1
      have gy := (evo_den hf y).1
      rw [hx] at g; rw [hy] at gy
      simp only [Den] at g gy
      rcases g with ⟨_, _, rfl⟩ | ⟨b, off, cap, cs, hv, _⟩
      · exact absurd rfl hk
      refine ⟨.bool ne, ?_, by simp only [Den], rfl⟩
      simp only [execOp, ho]
      rw [Sem.run_bind, hv, gy, Sem.run_bind, eqGuard_ok _ _ _ _ _ _ _ (by simp) (by simp), Result.andThen_ok, run_cmp_slice hdesc]
      rfl
    · rename_i e r hd hx hy
      rw [hd] at hdesc; simp only [DescOk] at hdesc
      split at h
      · rename_i z E xs hr
        simp only [Option.some.injEq, Prod.mk.injEq] at h
        obtain ⟨rfl, rfl, rfl, rfl⟩ := h
        refine OpOk.pure fun Γ ρ w a hi hf => ?_
        have g := (evo_den hf x).1
        have gy := (evo_den hf y).1
        rw [hx] at g; rw [hy] at gy
        simp only [Den] at gy
        obtain ⟨b, arr, cap, _, hv, _⟩ := row_val hi hr hk g
        refine ⟨.bool ne, ?_, by simp only [Den], rfl⟩
        simp only [execOp, ho]
        rw [Sem.run_bind, hv, gy, Sem.run_bind, eqGuard_ok _ _ _ _ _ _ _ (by simp) (by simp), Result.andThen_ok, run_cmp_slice hdesc]
        rfl
      · cases h
    · rename_i e hd hx hy
      rw [hd] at hdesc; simp only [DescOk] at hdesc
      simp only [Option.some.injEq, Prod.mk.injEq] at h
      obtain ⟨rfl, rfl, rfl, rfl⟩ := h
      refine OpOk.pure fun Γ ρ w a hi hf => ?_
      have g := (evo_den hf x).1
      have gy := (evo_den hf y).1
      rw [hx] at g; rw [hy] at gy
      simp only [Den] at g gy
      refine ⟨.bool (!ne), ?_, by simp only [Den], rfl⟩
      simp only [execOp, ho]
      rw [Sem.run_bind, g, gy, Sem.run_bind, eqGuard_ok _ _ _ _ _ _ _ (by simp) (by simp), Result.andThen_ok, run_cmp_nil hdesc]
      rfl
    · cases h
  · cases h
end
end Go.Proofs.Ytjchmajamlehmaa.X
