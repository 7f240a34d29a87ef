/- Cutting slices; one operation of whatever kind; the runner over a region's operations, and that it is right. -/
import Derived.Test.YtjchmajamlehmaaXh
namespace Go.Proofs.Ytjchmajamlehmaa.X
open Go Go.RowKit

theorem DenE.drop {Γ : Gh} {z : Nat} : ∀ (n : Nat) {xs : List SV} {cs : List Value}, DenE Γ z xs cs → DenE Γ z (xs.drop n) (cs.drop (n * z))
  | 0, _, _, h => by simpa using h
  | n + 1, [], _, _ => by simp [DenE]
  | n + 1, s :: xs, cs, h => by
    simp only [DenE] at h
    have := DenE.drop n h.2
    rw [List.drop_drop] at this
    simp only [List.drop_succ_cons]
    have e : (n + 1) * z = z + n * z := by rw [Nat.add_mul]; omega
    rw [e]; exact this
theorem DenE.take {Γ : Gh} {z : Nat} : ∀ (n : Nat) {xs : List SV} {cs : List Value}, DenE Γ z xs cs → DenE Γ z (xs.take n) cs
  | 0, _, _, _ => by simp [DenE]
  | n + 1, [], _, _ => by simp [DenE]
  | n + 1, s :: xs, cs, h => by
    simp only [DenE] at h
    simp only [List.take_succ_cons, DenE]
    exact ⟨h.1, DenE.take n h.2⟩

section
variable {P : Program} {T : Tab} {N : Nat} {fr : Fr} {mem : Mem} {nx : Nat} {o : Oper}

def bnd (fr : Fr) : Option Operand → Option (Option Int)
  | none => some none
  | some x => match evo fr x with
    | .int _ n => some (some n)
    | _ => none

def xslice (T : Tab) (fr : Fr) (mem : Mem) (nx : Nat) (t : Nat) (x : Operand) (lo hi mx : Option Operand) : R :=
  match fnd T t with
  | some ti => match ti.d with
    | .slice e => match fnd T e, bnd fr lo, bnd fr hi, bnd fr mx with
      | some ei, some l, some h, some m => match evo fr x with
        | .sl _ z xs => match Nat.beq z ei.cells with
          | true => match l, h, m with
            | l, some h, some m => some (.sl true z ((xs.take h.toNat).drop (l.getD 0).toNat), mem, nx, 0 ≤ l.getD 0 ∧ l.getD 0 ≤ h ∧ h = m ∧ h ≤ (xs.length : Int))
            | l, some h, none => some (.sl false z ((xs.take h.toNat).drop (l.getD 0).toNat), mem, nx, 0 ≤ l.getD 0 ∧ l.getD 0 ≤ h ∧ h ≤ (xs.length : Int))
            | l, none, none => some (.sl false z (xs.drop (l.getD 0).toNat), mem, nx, 0 ≤ l.getD 0 ∧ l.getD 0 ≤ (xs.length : Int))
            | _, none, some _ => none
          | false => none
        | _ => none
      | _, _, _, _ => none
    | _ => none
  | none => none

theorem bnd_den {Γ : Gh} {ρ : Env} {a : Act} (hf : FrDen Γ ρ nx N fr a) {x : Option Operand} {n : Option Int} (h : bnd fr x = some n) : (x = none ∧ n = none) ∨ ∃ x' k i, x = some x' ∧ n = some i ∧ a.eval x' = .int k i := by
  cases x with
  | none => simp [bnd] at h; exact .inl ⟨rfl, h.symm⟩
  | some x =>
    simp only [bnd] at h
    split at h
    · rename_i k i hx
      simp only [Option.some.injEq] at h
      have := (evo_den hf x).1
      rw [hx] at this; simp only [Den] at this
      exact .inr ⟨x, k, i, rfl, h.symm, this⟩
    · cases h

theorem run_bound {k : IntKind} {i : Int} {y : Nat} {c : BoundsCode} (w : World) (h0 : 0 ≤ i) (h1 : i ≤ (y : Int)) : (Instr.sliceBound (.int k i) y c).run P w = .ok i.toNat w := by
  simp [Instr.sliceBound, asIntOf, h0, h1]

theorem sl_cut {Γ : Gh} {x : Bool} {z : Nat} {xs : List SV} {v : Value} {ρ : Env} (h : Den Γ ρ (.sl x z xs) v) (l hh : Nat) (hl : l ≤ hh) (hle : hh ≤ xs.length) :
    ∃ base len cap, v = .slice base len cap ∧ len = xs.length ∧ len ≤ cap ∧
      (∀ m, hh ≤ m → m ≤ cap → (∀ e : Bool, (e = true → m = hh) → Den Γ ρ (.sl e z ((xs.take hh).drop l)) (.slice (if m = l then base else base.map (·.add (l * z))) (hh - l) (m - l)))) := by
  simp only [Den] at h
  rcases h with ⟨ad, rfl, rfl⟩ | ⟨b, off, cap, cs, rfl, h1, h2, h3, h4, h5⟩
  · refine ⟨ad, 0, 0, rfl, rfl, Nat.le_refl _, fun m hm hmc e he => ?_⟩
    simp only [List.length_nil] at hle
    have : hh = 0 := by omega
    have : l = 0 := by omega
    have : m = 0 := by omega
    subst_vars
    simp [Den]
  · refine ⟨_, _, cap, rfl, rfl, h1, fun m hm hmc e he => ?_⟩
    simp only [Den]
    have hlen : ((xs.take hh).drop l).length = hh - l := by simp; omega
    refine .inr ⟨b, if m = l then off else off + l * z, m - l, cs, ?_, by omega, fun h => by have := he h; omega, h3, ?_, ?_⟩
    · rw [hlen]
      split
      · rfl
      · simp [add_addr]
    · split
      · rename_i e; subst e; simp
        exact Nat.le_trans (Nat.le_add_right _ _) h4
      · have : (m - l) * z + l * z ≤ cap * z := by
          rw [← Nat.add_mul]; exact Nat.mul_le_mul_right _ (by omega)
        omega
    · have h6 := (h5.take hh).drop l
      rw [List.drop_drop] at h6
      split
      · rename_i e
        subst e
        have : hh = m := by omega
        subst this
        simp [DenE]
      · exact h6

theorem ok_slice (hT : TabOk P T) {t : Nat} {x : Operand} {lo hi mx : Option Operand} (ho : o.op = .slice t x lo hi mx) {sv : SV} {mem' : Mem} {nx' : Nat} {k : Prop} (h : xslice T fr mem nx t x lo hi mx = some (sv, mem', nx', k)) (hk : k) : OpOk P N fr mem nx o sv mem' nx' := by
  unfold xslice at h
  split at h
  · rename_i ti hti
    have hdesc := (hT t ti hti).desc
    split at h
    · rename_i e hd
      rw [hd] at hdesc; simp only [DescOk] at hdesc
      split at h
      · rename_i ei l hh m hei hbl hbh hbm
        split at h
        · rename_i xb z xs hx
          split at h
          · rename_i hz
            have hz : z = ei.cells := Nat.eq_of_beq_eq_true hz
            have hse := (hT e ei hei).sizeOf
            have hund : ∀ w, (underlying t).run P w = .ok (.slice e) w := run_underlying hdesc
            split at h
            · rename_i h' m'
              simp only [Option.some.injEq, Prod.mk.injEq] at h
              obtain ⟨rfl, rfl, rfl, rfl⟩ := h
              obtain ⟨k1, k2, rfl, k3⟩ := hk
              refine OpOk.pure fun Γ ρ w a hi' hf => ?_
              have g := (evo_den hf x).1
              rw [hx] at g
              obtain ⟨base, len, cap, hv, hlen, hcap, hcut⟩ := sl_cut g (l.getD 0).toNat h'.toNat (by omega) (by omega)
              have hd2 := hcut h'.toNat (Nat.le_refl _) (by omega) true (fun _ => rfl)
              refine ⟨_, ?_, hd2, rfl⟩
              rcases bnd_den hf hbh with ⟨_, h0⟩ | ⟨hx', hk', hi'', rfl, h0, hev⟩
              · cases h0
              cases h0
              rcases bnd_den hf hbm with ⟨_, h0⟩ | ⟨mx', mk', mi'', rfl, h0, mev⟩
              · cases h0
              cases h0
              have hm1 := run_bound (P := P) (k := mk') (i := h') (y := cap) (c := .slice3Acap) w (by omega) (by omega)
              have hm2 := run_bound (P := P) (k := hk') (i := h') (y := h'.toNat) (c := .slice3B) w (by omega) (by omega)
              rcases bnd_den hf hbl with ⟨rfl, rfl⟩ | ⟨lx', lk', li'', rfl, rfl, lev⟩
              · simp [execOp, ho, hv, Instr.sliceAt, Instr.slice, hund, Instr.sliceBounds, hev, mev, hm1, hm2, hse, hz]
              · have hm3 := run_bound (P := P) (k := lk') (i := li'') (y := h'.toNat) (c := .slice3C) w (by simpa using k1) (by simp at k2; omega)
                simp [execOp, ho, hv, Instr.sliceAt, Instr.slice, hund, Instr.sliceBounds, hev, mev, lev, hm1, hm2, hm3, hse, hz]
            · rename_i h'
              simp only [Option.some.injEq, Prod.mk.injEq] at h
              obtain ⟨rfl, rfl, rfl, rfl⟩ := h
              obtain ⟨k1, k2, k3⟩ := hk
              refine OpOk.pure fun Γ ρ w a hi' hf => ?_
              have g := (evo_den hf x).1
              rw [hx] at g
              obtain ⟨base, len, cap, hv, hlen, hcap, hcut⟩ := sl_cut g (l.getD 0).toNat h'.toNat (by omega) (by omega)
              have hd2 := hcut cap (by omega) (Nat.le_refl _) false (fun h => by cases h)
              refine ⟨_, ?_, hd2, rfl⟩
              rcases bnd_den hf hbh with ⟨_, h0⟩ | ⟨hx', hk', hi'', rfl, h0, hev⟩
              · cases h0
              cases h0
              rcases bnd_den hf hbm with ⟨rfl, h0⟩ | ⟨mx', mk', mi'', rfl, h0, mev⟩
              · have hm1 := run_bound (P := P) (k := hk') (i := h') (y := cap) (c := .sliceAcap) w (by omega) (by omega)
                rcases bnd_den hf hbl with ⟨rfl, rfl⟩ | ⟨lx', lk', li'', rfl, rfl, lev⟩
                · simp [execOp, ho, hv, Instr.sliceAt, Instr.slice, hund, Instr.sliceBounds, hev, hm1, hse, hz]
                · have hm3 := run_bound (P := P) (k := lk') (i := li'') (y := h'.toNat) (c := .sliceB) w (by simpa using k1) (by simp at k2; omega)
                  simp [execOp, ho, hv, Instr.sliceAt, Instr.slice, hund, Instr.sliceBounds, hev, lev, hm1, hm3, hse, hz]
              · cases h0
            · skip
              simp only [Option.some.injEq, Prod.mk.injEq] at h
              obtain ⟨rfl, rfl, rfl, rfl⟩ := h
              obtain ⟨k1, k3⟩ := hk
              refine OpOk.pure fun Γ ρ w a hi' hf => ?_
              have g := (evo_den hf x).1
              rw [hx] at g
              obtain ⟨base, len, cap, hv, hlen, hcap, hcut⟩ := sl_cut g (l.getD 0).toNat xs.length (by omega) (Nat.le_refl _)
              have hd2 := hcut cap (by omega) (Nat.le_refl _) false (fun h => by cases h)
              rw [List.take_length] at hd2
              refine ⟨_, ?_, hd2, rfl⟩
              rcases bnd_den hf hbh with ⟨rfl, h0⟩ | ⟨hx', hk', hi'', rfl, h0, hev⟩
              · rcases bnd_den hf hbm with ⟨rfl, h0⟩ | ⟨mx', mk', mi'', rfl, h0, mev⟩
                · rcases bnd_den hf hbl with ⟨rfl, rfl⟩ | ⟨lx', lk', li'', rfl, rfl, lev⟩
                  · simp [execOp, ho, hv, Instr.sliceAt, Instr.slice, hund, Instr.sliceBounds, hse, hz, hlen]
                  · have hm3 := run_bound (P := P) (k := lk') (i := li'') (y := xs.length) (c := .sliceB) w (by simpa using k1) (by simpa using k3)
                    simp [execOp, ho, hv, Instr.sliceAt, Instr.slice, hund, Instr.sliceBounds, lev, hm3, hse, hz, hlen]
                · cases h0
              · cases h0
            · cases h
          · cases h
        · cases h
      · cases h
    · cases h
  · cases h

def xop1 (T : Tab) (fr : Fr) (mem : Mem) (nx : Nat) (o : Op) (q : SV) : R :=
  match o with
  | .move x => some (evo fr x, mem, nx, True)
  | .assign x => some (evo fr x, mem, nx, True)
  | .pick c a b => xpick fr mem nx c a b q
  | .alloc t => xalloc T mem nx t
  | .box t x => xbox fr mem nx t x
  | .load t x => xload T fr mem nx t x q
  | .store t x v => xstore T fr mem nx t x v
  | .fieldAddr s x f => xfieldAddr T fr mem nx s x f
  | .indexAddr t x i => xindexAddr T fr mem nx t x i q
  | .unOp .not _ x => xnot fr mem nx x
  | .binOp op t x y _ => xbinOp T fr mem nx op t x y q
  | .convert s d x => xconv T fr mem nx s d x q
  | .build t parts => xbuild T fr mem nx t parts
  | .buildSlice t len parts => xbuildSlice T fr mem nx t len parts
  | .makeSlice t l c => xmakeSlice T fr mem nx t l c
  | .slice t x lo hi mx => xslice T fr mem nx t x lo hi mx
  | .makeFunc (.func f) first cap => xmakeFunc fr mem nx f first cap
  | .extract x i => xextract fr mem nx x i
  | .field s x f => xfield T fr mem nx s x f
  | .call ⟨.builtin .len, ⟨[x]⟩, ⟨[t]⟩⟩ => xlen T fr mem nx t x q
  | .call ⟨.builtin .max, ⟨[x, y]⟩, _⟩ => xmm true fr mem nx x y q
  | .call ⟨.builtin .min, ⟨[x, y]⟩, _⟩ => xmm false fr mem nx x y q
  | _ => none

theorem xop1_sound (hT : TabOk P T) {q sv : SV} {mem' : Mem} {nx' : Nat} {k : Prop} (h : xop1 T fr mem nx o.op q = some (sv, mem', nx', k)) (hk : k) : OpOk P N fr mem nx o sv mem' nx' := by
  unfold xop1 at h
  split at h
  · rename_i ho
    simp only [Option.some.injEq, Prod.mk.injEq] at h
    obtain ⟨rfl, rfl, rfl, rfl⟩ := h
    exact ok_move (.inl ho)
  · rename_i ho
    simp only [Option.some.injEq, Prod.mk.injEq] at h
    obtain ⟨rfl, rfl, rfl, rfl⟩ := h
    exact ok_move (.inr ho)
  · rename_i ho; exact ok_pick ho h hk
  · rename_i ho; exact ok_alloc hT ho h
  · rename_i ho; exact ok_box ho h
  · rename_i ho; exact ok_load hT ho h hk
  · rename_i ho; exact ok_store hT ho h hk
  · rename_i ho; exact ok_fieldAddr hT ho h
  · rename_i ho; exact ok_indexAddr hT ho h hk
  · rename_i ho; exact ok_not ho h
  · rename_i ho; exact ok_binOp hT ho h hk
  · rename_i ho; exact ok_conv hT ho h hk
  · rename_i ho; exact ok_build hT ho h
  · rename_i ho; exact ok_buildSlice hT ho h
  · rename_i ho; exact ok_makeSlice hT ho h hk
  · rename_i ho; exact ok_slice hT ho h hk
  · rename_i ho; exact ok_makeFunc ho h
  · rename_i ho; exact ok_extract ho h
  · rename_i ho; exact ok_field hT ho h
  · rename_i ho; exact ok_len hT ho h hk
  · rename_i ho; exact ok_max ho h hk
  · rename_i ho; exact ok_min ho h hk
  · cases h

end
end Go.Proofs.Ytjchmajamlehmaa.X
