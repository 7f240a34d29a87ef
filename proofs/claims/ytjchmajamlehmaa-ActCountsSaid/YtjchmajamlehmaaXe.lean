/- The operations: their symbolic results and that these are right. Part 3: stores, addresses, numbers, structs. -/
import Derived.Test.YtjchmajamlehmaaXd
import Derived.Great.FillDense
namespace Go.Proofs.Ytjchmajamlehmaa.X
open Go Go.RowKit

def splice (l : List SV) (off : Nat) (n : List SV) : List SV := l.take off ++ n ++ l.drop (off + n.length)

theorem spliceDen {Γ : Gh} {ρ : Env} {l n : List SV} {vs ns : List Value} (off : Nat) (h : DenL Γ ρ l vs) (hn : DenL Γ ρ n ns) : DenL Γ ρ (splice l off n) (vs.take off ++ ns ++ vs.drop (off + ns.length)) := by
  unfold splice
  rw [hn.length]
  exact ((h.take off).append hn).append (h.drop _)
theorem spliceBd {k : Nat} {l n : List SV} (off : Nat) (h : bdL k l = true) (hn : bdL k n = true) : bdL k (splice l off n) = true :=
  bdL_append (bdL_append (bdL_take _ h) hn) (bdL_drop _ h)

theorem Inv.set {Γ : Gh} {ρ : Env} {nx : Nat} {mem : Mem} {w : World} (h : Inv Γ ρ nx mem w) {r : Nat} {B B' : Blk} (hr : fnd mem r = some B) {b : Nat} (hb : ρ.blk r = some b) (hΓ : Γ b = none) (w' : World)
    (hother : ∀ k, k ≠ b → w'.heap[k]? = w.heap[k]?) (hB : BlkOk Γ ρ w' r B') (hbd : B'.bd nx = true) : Inv Γ ρ nx (upd mem r B') w' where
  pub c cs hc := by
    obtain ⟨E, fz, e⟩ := h.pub c cs hc
    exact ⟨E, fz, by rw [hother c (fun e => by subst e; rw [hΓ] at hc; cases hc), e]⟩
  priv r' C hC := by
    rw [fnd_upd _ _ _ _ (by simp [hr])] at hC
    split at hC
    · rename_i e; subst e; cases hC
      exact ⟨hB, (h.priv r' B hr).2.1, hbd⟩
    · rename_i e
      obtain ⟨h1, h2, h3⟩ := h.priv r' C hC
      exact ⟨h1.move (Gh.le_refl _) (Env.same_refl nx ρ) h2 h3 (fun c hc => ⟨hother c (fun e' => e (h.inj r' r b C B hC hr (e' ▸ hc) hb)), id⟩), h2, h3⟩
  inj r1 r2 c C C' hC hC' hc hc' := by
    have aux : ∀ r' D, fnd (upd mem r B') r' = some D → ∃ D', fnd mem r' = some D' := fun r' D hD => by
      rw [fnd_upd _ _ _ _ (by simp [hr])] at hD
      split at hD
      · rename_i e; subst e; exact ⟨B, hr⟩
      · exact ⟨D, hD⟩
    obtain ⟨D, hD⟩ := aux r1 C hC
    obtain ⟨D', hD'⟩ := aux r2 C' hC'
    exact h.inj r1 r2 c D D' hD hD' hc hc'

theorem Stp.set {ρ : Env} {mem : Mem} {w w' : World} {r : Nat} {B : Blk} (B' : Blk) (hr : fnd mem r = some B) {b : Nat} (hb : ρ.blk r = some b) (hos : w'.os = w.os) (ht : w'.tape = w.tape) (ho : w'.output = w.output) (hs : w'.heap.size = w.heap.size)
    (hother : ∀ k, k ≠ b → w'.heap[k]? = w.heap[k]?) : Stp ρ mem w ρ (upd mem r B') w' where
  os := hos
  tape := ht
  output := ho
  size := by omega
  keep c _ hc := hother c (fun e => hc ⟨r, B, hr, e ▸ hb⟩)
  own c := by
    rintro ⟨r', C, hC, hc⟩
    rw [fnd_upd _ _ _ _ (by simp [hr])] at hC
    split at hC
    · rename_i e; subst e; exact .inl ⟨r', B, hr, hc⟩
    · exact .inl ⟨r', C, hC, hc⟩

section
variable {P : Program} {T : Tab} {N : Nat} {fr : Fr} {mem : Mem} {nx : Nat} {o : Oper}

def xstore (T : Tab) (fr : Fr) (mem : Mem) (nx : Nat) (t : Nat) (x v : Operand) : R :=
  match evo fr x, fnd T t, cellsOf (evo fr v) with
  | .loc r off, some ti, some n => match fnd mem r, Nat.beq n.length ti.cells with
    | some (.cells l E), true => match Nat.ble (off + n.length) l.length with
      | true => some (.junk, upd mem r (.cells (splice l off n) E), nx, True)
      | false => none
    | _, _ => none
  | .relt r z i 0, some ti, some n => match fnd mem r, Nat.beq n.length ti.cells, (evo fr v).bd 0 with
    | some (.row z' E xs), true, true => match Nat.beq z z', Nat.beq z ti.cells with
      | true, true => some (.junk, upd mem r (.row z' E (xs.set i (evo fr v))), nx, i < xs.length)
      | _, _ => none
    | _, _, _ => none
  | _, _, _ => none

theorem run_storeVar_at {t : Nat} {ti : TI} (ht : TIok P t ti) {w : World} {b : Nat} {arr : Array Value} {E : Nat} (hb : w.heap[b]? = some (.cells arr E (0, 0))) (off : Nat) (v : Value) (hv : v.cells.size = ti.cells)
    (hle : off + v.cells.size ≤ arr.size) (h1 : ∀ c ∈ v.cells.toList, c.oneCell' = true) :
    (storeVar t ⟨b, off, none⟩ v).run P w = .ok () (w.setRow b (arr.toList.take off ++ v.cells.toList ++ arr.toList.drop (off + v.cells.toList.length)).toArray) := by
  simp only [storeVar, Sem.run_bind, ht.sizeOf, Result.andThen_ok, hv, ne_eq, not_true_eq_false, if_false]
  have := run_storeCells_at (P := P) b off E v.cells.toList 0 arr w hb (by simpa using hle) h1
  simpa using this

theorem Den.ofBd0 {Γ : Gh} {ρ ρ' : Env} {s : SV} {v : Value} (h : Den Γ ρ s v) (hb : s.bd 0 = true) : Den Γ ρ' s v :=
  Den.ext (Gh.le_refl _) (n := 0) s v (fun r hr => absurd hr (Nat.not_lt_zero r)) hb h

theorem DenE.set {Γ : Gh} {z : Nat} : ∀ {xs : List SV} {cs : List Value} (i : Nat) {s : SV} {v : Value}, DenE Γ z xs cs → i < xs.length → Den Γ Env.nil s v → v.cells.size = z →
    DenE Γ z (xs.set i s) (cs.take (i * z) ++ v.cells.toList ++ cs.drop (i * z + z))
  | [], _, i, s, v, _, hi, _, _ => by simp at hi
  | x :: xs, cs, 0, s, v, h, _, hv, hz => by
    simp only [DenE] at h
    simp only [List.set_cons_zero, DenE, Nat.zero_mul, List.take_zero, List.nil_append, Nat.zero_add]
    have hl : v.cells.toList.length = z := by simpa using hz
    refine ⟨⟨v, hv, hz, by rw [List.take_append_of_le_length (by omega), List.take_of_length_le (by omega)]⟩, ?_⟩
    rw [List.drop_append_of_le_length (by omega), List.drop_of_length_le (by omega)]
    simpa using h.2
  | x :: xs, cs, i + 1, s, v, h, hi, hv, hz => by
    have hlen := h.len
    simp only [DenE] at h
    obtain ⟨⟨u, h1, h2, h3⟩, h4⟩ := h
    simp only [List.length_cons] at hi hlen
    have hle : z ≤ cs.length := by
      have := congrArg List.length h3
      simp only [Array.length_toList, List.length_take, h2] at this
      omega
    have ih := DenE.set i h4 (by omega) hv hz
    simp only [List.set_cons_succ, DenE]
    have e1 : (i + 1) * z = z + i * z := by rw [Nat.add_mul]; omega
    refine ⟨⟨u, h1, h2, ?_⟩, ?_⟩
    · rw [h3, List.append_assoc, List.take_append_of_le_length (by simp; omega), List.take_take, e1, Nat.min_eq_left (by omega)]
    · rw [e1]
      have : cs.take (z + i * z) = cs.take z ++ (cs.drop z).take (i * z) := by rw [List.take_add]
      rw [this, List.append_assoc, List.append_assoc, List.drop_append_of_le_length (by simp; omega), List.drop_of_length_le (by simp; omega), List.nil_append]
      rw [List.drop_drop] at ih
      rw [← List.append_assoc]
      have e2 : z + i * z + z = z + (i * z + z) := by omega
      rw [e2]; exact ih

theorem ok_store (hT : TabOk P T) {t : Nat} {x v : Operand} (ho : o.op = .store t x v) {sv : SV} {mem' : Mem} {nx' : Nat} {k : Prop} (h : xstore T fr mem nx t x v = some (sv, mem', nx', k)) (hk : k) : OpOk P N fr mem nx o sv mem' nx' := by
  unfold xstore at h
  split at h
  · rename_i r off ti n hx hti hn
    split at h
    · rename_i l E hl hc
      split at h
      · rename_i hle
        simp only [Option.some.injEq, Prod.mk.injEq] at h
        obtain ⟨rfl, rfl, rfl, rfl⟩ := h
        intro Γ ρ w a hi hf
        have h1 := (evo_den hf x).1
        rw [hx] at h1; simp only [Den] at h1
        obtain ⟨b, hb, hv⟩ := h1
        obtain ⟨h2, h2'⟩ := evo_den hf v
        obtain ⟨h3, h4, h5⟩ := cellsOf_den hn h2 h2'
        obtain ⟨⟨b', arr, g1, g2, g3, g4, g5⟩, _, g7⟩ := hi.priv r _ hl
        rw [hb] at g1; cases g1
        have hlen := g3.length
        have hnl := h3.length
        have hcell : n.length = ti.cells := Nat.eq_of_beq_eq_true hc
        have hle' : off + n.length ≤ l.length := Nat.le_of_ble_eq_true hle
        simp only [Array.length_toList] at hlen hnl
        have hrun := run_storeVar_at (hT t ti hti) g2 off (a.eval v) (by omega) (by omega) h4
        refine ⟨undef, .skip, Γ, ρ, w.setRow b (arr.toList.take off ++ (a.eval v).cells.toList ++ arr.toList.drop (off + (a.eval v).cells.toList.length)).toArray, ?_, .inr ⟨rfl, rfl⟩, by simp only [Den], rfl, ?_, Env.same_refl _ _, Nat.le_refl _, ?_, Gh.le_refl _, fun _ hb => .inl hb⟩
        · simp only [execOp, ho, Instr.storeAt, Instr.sureAddr, hv, Sem.run_bind, Sem.run_pure, Result.andThen_ok, hrun]
        · refine hi.set hl hb g5 _ (fun k hk => setRow_other w b k _ hk) ⟨b, _, hb, setRow_heap w b arr _ E _ g2, ?_, ?_, g5⟩ (spliceBd off g7 h5)
          · simpa using spliceDen off g3 h3
          · intro c hc
            simp only [List.mem_append] at hc
            rcases hc with (hc | hc) | hc
            · exact g4 c (List.mem_of_mem_take hc)
            · exact h4 c hc
            · exact g4 c (List.mem_of_mem_drop hc)
        · exact Stp.set _ hl hb rfl rfl rfl (by simp) (fun k hk => setRow_other w b k _ hk)
      · cases h
    · cases h
  · rename_i r z i ti n hx hti hn
    split at h
    · rename_i z' E xs hl hc hbd
      split at h
      · rename_i hz hzc
        simp only [Option.some.injEq, Prod.mk.injEq] at h
        obtain ⟨rfl, rfl, rfl, rfl⟩ := h
        have hz : z = z' := Nat.eq_of_beq_eq_true hz
        subst hz
        have hzc : z = ti.cells := Nat.eq_of_beq_eq_true hzc
        intro Γ ρ w a hi hf
        have h1 := (evo_den hf x).1
        rw [hx] at h1; simp only [Den] at h1
        obtain ⟨b, hb, hv⟩ := h1
        obtain ⟨h2, h2'⟩ := evo_den hf v
        obtain ⟨h3, h4, h5⟩ := cellsOf_den hn h2 h2'
        obtain ⟨⟨vv, hvv, g⟩, _, _⟩ := hi.priv r _ hl
        rcases g with ⟨_, g, _⟩ | ⟨b', arr, cap, g1, g2, g3, g4, g5, g6, g7, g8⟩
        · subst g; simp at hk
        rw [hb] at g1; cases g1
        have hnl := h3.length
        have hcell : n.length = ti.cells := Nat.eq_of_beq_eq_true hc
        simp only [Array.length_toList] at hnl
        have hsz : (a.eval v).cells.size = z := by omega
        have hmul : i * z + z ≤ xs.length * z := by
          have : (i + 1) * z ≤ xs.length * z := Nat.mul_le_mul_right _ hk
          rw [Nat.add_mul] at this; omega
        have hcap : xs.length * z ≤ arr.size := by rw [g5]; exact Nat.mul_le_mul_right _ g4
        have hrun := run_storeVar_at (hT t ti hti) g3 (i * z) (a.eval v) (by omega) (by omega) h4
        have hvn : Den Γ Env.nil (evo fr v) (a.eval v) := h2.ofBd0 hbd
        refine ⟨undef, .skip, Γ, ρ, w.setRow b (arr.toList.take (i * z) ++ (a.eval v).cells.toList ++ arr.toList.drop (i * z + (a.eval v).cells.toList.length)).toArray, ?_, .inr ⟨rfl, rfl⟩, by simp only [Den], rfl, ?_, Env.same_refl _ _, Nat.le_refl _, ?_, Gh.le_refl _, fun _ hb => .inl hb⟩
        · simp only [execOp, ho, Instr.storeAt, Instr.sureAddr, hv, Sem.run_bind, Sem.run_pure, Result.andThen_ok, Nat.add_zero, hrun]
        · have hszl : (a.eval v).cells.toList.length = z := by simpa using hsz
          refine hi.set hl hb g8 _ (fun k hk => setRow_other w b k _ hk) ⟨vv, hvv, .inr ⟨b, _, cap, hb, by simpa using g2, setRow_heap w b arr _ E _ g3, by simpa using g4, ?_, ?_, ?_, g8⟩⟩ rfl
          · simp [hsz]; omega
          · rw [hszl]
            simpa using DenE.set i g6 hk hvn hsz
          · intro c hc
            simp only [List.mem_append] at hc
            rcases hc with (hc | hc) | hc
            · exact g7 c (List.mem_of_mem_take hc)
            · exact h4 c hc
            · exact g7 c (List.mem_of_mem_drop hc)
        · exact Stp.set _ hl hb rfl rfl rfl (by simp) (fun k hk => setRow_other w b k _ hk)
      · cases h
    · cases h
  · cases h

def xfieldAddr (T : Tab) (fr : Fr) (mem : Mem) (nx : Nat) (s : Nat) (x : Operand) (f : Nat) : R :=
  match fnd T s with
  | some ti => match ti.d with
    | .struct fs => match fs[f]? with
      | some (off, ft) => match fnd T ft with
        | some fi => match Nat.beq fi.cells 0 with
          | true => none
          | false => match evo fr x with
            | .loc r o => some (.loc r (o + off), mem, nx, True)
            | .relt r z i o => some (.relt r z i (o + off), mem, nx, True)
            | .elt (.agg l) => match fi.agg with
              | true => match Nat.ble (off + fi.cells) l.length, l.all SV.single with
                | true, true => some (.elt (.agg ((l.drop off).take fi.cells)), mem, nx, True)
                | _, _ => none
              | false => match l[off]?, l.all SV.single with
                | some s, true => some (.elt s, mem, nx, True)
                | _, _ => none
            | _ => none
        | none => none
      | none => none
    | _ => none
  | none => none

theorem run_fieldAt (hT : TabOk P T) {s : Nat} {ti : TI} {fs : List (Nat × Nat)} {f off ft : Nat} {fi : TI} (hs : fnd T s = some ti) (hd : ti.d = .struct fs) (hf : fs[f]? = some (off, ft)) (hft : fnd T ft = some fi) (h0 : Nat.beq fi.cells 0 = false)
    (w : World) (a : Addr) : (Instr.fieldAt s (.pointer (some a)) f).run P w = .ok (.pointer (some (a.add off))) w := by
  have hdesc := (hT s ti hs).desc
  rw [hd] at hdesc
  simp only [DescOk] at hdesc
  cases hu : P.underlying s with
  | none => simp [hu] at hdesc
  | some d =>
    rw [hu] at hdesc
    cases d with
    | struct fa =>
      simp only [Option.bind_some, structFs, Option.some.injEq] at hdesc
      subst hdesc
      rw [List.getElem?_map] at hf
      cases hq : fa.toList[f]? with
      | none => simp [hq] at hf
      | some fd =>
        simp [hq] at hf
        obtain ⟨rfl, rfl⟩ := hf
        have hq' : fa[f]? = some fd := by simpa using hq
        have hne : fi.cells ≠ 0 := fun e => by rw [e] at h0; simp at h0
        simp [Instr.fieldAt, run_underlying hu, hq', Instr.sureAddr, fieldPlace, (hT _ fi hft).sizeOf, hne]
    | _ => simp [structFs] at hdesc

theorem elt_part {Γ : Gh} {l m : List SV} {n k : Nat} {u : Value} {cs : List Value} {off : Nat} (hs : Den Γ Env.nil (.agg l) u) (hle : off + u.cells.size ≤ cs.length) (hu : u.cells.toList = (cs.drop off).take u.cells.size)
    (hm : m = (l.drop n).take k) (hk : n + k ≤ l.length) : ∃ vs : List Value, DenL Γ Env.nil m vs ∧ vs = (cs.drop (off + n)).take k ∧ vs.length = k ∧ off + n + k ≤ cs.length := by
  simp only [Den] at hs
  obtain ⟨ws, rfl, h⟩ := hs
  have hlen := h.length
  subst hm
  simp only [Value.cells, Array.length_toList] at hle hu hlen
  refine ⟨(ws.toList.drop n).take k, (h.drop n).take k, ?_, by simp; omega, by omega⟩
  rw [hu, List.drop_take, List.drop_drop, List.take_take, Nat.min_eq_left (by omega)]

theorem ok_fieldAddr (hT : TabOk P T) {s : Nat} {x : Operand} {f : Nat} (ho : o.op = .fieldAddr s x f) {sv : SV} {mem' : Mem} {nx' : Nat} {k : Prop} (h : xfieldAddr T fr mem nx s x f = some (sv, mem', nx', k)) : OpOk P N fr mem nx o sv mem' nx' := by
  unfold xfieldAddr at h
  split at h
  · rename_i ti hti
    split at h
    · rename_i fs hd
      split at h
      · rename_i off ft hf
        split at h
        · rename_i fi hfi
          split at h
          · cases h
          · rename_i h0
            have hrun := run_fieldAt hT hti hd hf hfi h0
            split at h
            · rename_i r oo hx
              simp only [Option.some.injEq, Prod.mk.injEq] at h
              obtain ⟨rfl, rfl, rfl, rfl⟩ := h
              refine OpOk.pure fun Γ ρ w a hi hff => ?_
              obtain ⟨h1, h1'⟩ := evo_den hff x
              rw [hx] at h1 h1'; simp only [Den] at h1
              obtain ⟨b, hb, hv⟩ := h1
              exact ⟨_, by simp only [execOp, ho, hv, Sem.run_bind, hrun, Result.andThen_ok, Sem.run_pure, add_addr]; rfl, by simp only [Den]; exact ⟨b, hb, rfl⟩, h1'⟩
            · rename_i r z i oo hx
              simp only [Option.some.injEq, Prod.mk.injEq] at h
              obtain ⟨rfl, rfl, rfl, rfl⟩ := h
              refine OpOk.pure fun Γ ρ w a hi hff => ?_
              obtain ⟨h1, h1'⟩ := evo_den hff x
              rw [hx] at h1 h1'; simp only [Den] at h1
              obtain ⟨b, hb, hv⟩ := h1
              exact ⟨_, by simp only [execOp, ho, hv, Sem.run_bind, hrun, Result.andThen_ok, Sem.run_pure, add_addr]; rfl, by simp only [Den]; exact ⟨b, hb, by rw [Nat.add_assoc]⟩, h1'⟩
            · rename_i l hx
              split at h
              · rename_i ha
                split at h
                · rename_i hle hall
                  simp only [Option.some.injEq, Prod.mk.injEq] at h
                  obtain ⟨rfl, rfl, rfl, rfl⟩ := h
                  refine OpOk.pure fun Γ ρ w a hi hff => ?_
                  obtain ⟨h1, h1'⟩ := evo_den hff x
                  rw [hx] at h1; simp only [Den] at h1
                  obtain ⟨b, o1, cs, u, hv, hb, hu, hle', hcs⟩ := h1
                  obtain ⟨vs, e1, e2, e3, e4⟩ := elt_part (n := off) (k := fi.cells) (by simp only [Den]; exact hu) hle' hcs rfl (Nat.le_of_ble_eq_true hle)
                  refine ⟨_, by simp only [execOp, ho, hv, Sem.run_bind, hrun, Result.andThen_ok, Sem.run_pure, add_addr]; rfl, ?_, rfl⟩
                  simp only [Den]
                  refine ⟨b, o1 + off, cs, .agg vs.toArray, rfl, hb, ⟨vs.toArray, rfl, by simpa using e1⟩, ?_, ?_⟩
                  · simp [Value.cells, e3]; omega
                  · simp [Value.cells, e2]
                · cases h
              · split at h
                · rename_i s1 hs1 hall
                  simp only [Option.some.injEq, Prod.mk.injEq] at h
                  obtain ⟨rfl, rfl, rfl, rfl⟩ := h
                  refine OpOk.pure fun Γ ρ w a hi hff => ?_
                  obtain ⟨h1, h1'⟩ := evo_den hff x
                  rw [hx] at h1; simp only [Den] at h1
                  obtain ⟨b, o1, cs, u, hv, hb, hu, hle', hcs⟩ := h1
                  have hofl : off < l.length := (List.getElem?_eq_some_iff.1 hs1).1
                  obtain ⟨vs, e1, e2, e3, e4⟩ := elt_part (n := off) (k := 1) (by simp only [Den]; exact hu) hle' hcs rfl (by omega)
                  have hm : (l.drop off).take 1 = [s1] := by
                    rw [List.drop_eq_getElem_cons hofl, List.take_succ_cons, List.take_zero]
                    rw [(List.getElem?_eq_some_iff.1 hs1).2]
                  rw [hm] at e1
                  simp only [DenL] at e1
                  obtain ⟨u1, r1, rfl, e5, rfl⟩ := e1
                  have hsing : s1.single = true := List.all_eq_true.1 hall s1 (List.mem_of_getElem? hs1)
                  have hone := e5.single hsing
                  refine ⟨_, by simp only [execOp, ho, hv, Sem.run_bind, hrun, Result.andThen_ok, Sem.run_pure, add_addr]; rfl, ?_, rfl⟩
                  simp only [Den]
                  refine ⟨b, o1 + off, cs, u1, rfl, hb, e5, ?_, ?_⟩
                  · rw [cells_of_one hone]; simpa using e4
                  · rw [cells_of_one hone]; simpa using e2
                · cases h
            · cases h
        · cases h
      · cases h
    · cases h
  · cases h

def xindexAddr (T : Tab) (fr : Fr) (mem : Mem) (nx : Nat) (t : Nat) (x i : Operand) (q : SV) : R :=
  match fnd T t, evo fr i with
  | some ti, .int _ n => match ti.d with
    | .arr len e => match fnd T e, evo fr x with
      | some ei, .loc r o => some (.loc r (o + n.toNat * ei.cells), mem, nx, 0 ≤ n ∧ n < (len : Int))
      | _, _ => none
    | .slice e => match fnd T e, evo fr x with
      | some ei, .sl _ z xs => match Nat.beq z ei.cells with
        | true => some (.elt q, mem, nx, 0 ≤ n ∧ n < (xs.length : Int) ∧ xs[n.toNat]? = some q)
        | false => none
      | some ei, .own r => match fnd mem r with
        | some (.row z _ xs) => match Nat.beq z ei.cells with
          | true => some (.relt r z n.toNat 0, mem, nx, 0 ≤ n ∧ n < (xs.length : Int))
          | false => none
        | _ => none
      | _, _ => none
    | _ => none
  | _, _ => none

theorem ok_indexAddr (hT : TabOk P T) {t : Nat} {x i : Operand} (ho : o.op = .indexAddr t x i) {q sv : SV} {mem' : Mem} {nx' : Nat} {k : Prop} (h : xindexAddr T fr mem nx t x i q = some (sv, mem', nx', k)) (hk : k) : OpOk P N fr mem nx o sv mem' nx' := by
  unfold xindexAddr at h
  split at h
  · rename_i ti ki n hti hi'
    have hdesc := (hT t ti hti).desc
    split at h
    · rename_i len e hd
      rw [hd] at hdesc; simp only [DescOk] at hdesc
      split at h
      · rename_i ei r oo he hx
        simp only [Option.some.injEq, Prod.mk.injEq] at h
        obtain ⟨rfl, rfl, rfl, rfl⟩ := h
        refine OpOk.pure fun Γ ρ w a hi hf => ?_
        obtain ⟨h1, h1'⟩ := evo_den hf x
        rw [hx] at h1 h1'; simp only [Den] at h1
        obtain ⟨b, hb, hv⟩ := h1
        have h2 := (evo_den hf i).1
        rw [hi'] at h2; simp only [Den] at h2
        exact ⟨_, by simp [execOp, ho, hv, h2, Instr.indexAt, asIntOf, run_underlying hdesc, Instr.sureAddr, hk, (hT e ei he).sizeOf, add_addr]; rfl, by simp only [Den]; exact ⟨b, hb, rfl⟩, h1'⟩
      · cases h
    · rename_i e hd
      rw [hd] at hdesc; simp only [DescOk] at hdesc
      split at h
      · rename_i ei xb z xs he hx
        split at h
        · rename_i hz
          have hz : z = ei.cells := Nat.eq_of_beq_eq_true hz
          simp only [Option.some.injEq, Prod.mk.injEq] at h
          obtain ⟨rfl, rfl, rfl, rfl⟩ := h
          obtain ⟨hk1, hk2, hk3⟩ := hk
          refine OpOk.pure fun Γ ρ w a hi hf => ?_
          obtain ⟨h1, h1'⟩ := evo_den hf x
          rw [hx] at h1; simp only [Den] at h1
          have h2 := (evo_den hf i).1
          rw [hi'] at h2; simp only [Den] at h2
          rcases h1 with ⟨_, _, h1⟩ | ⟨b, off, cap, cs, hv, hcap, _, hΓ, hle, hE⟩
          · subst h1; simp at hk3
          obtain ⟨u, hu1, hu2, hu3⟩ := hE.get n.toNat hk3
          have hnl : n.toNat < xs.length := (List.getElem?_eq_some_iff.1 hk3).1
          have hm : n.toNat * z + z ≤ cap * z := by
            have : (n.toNat + 1) * z ≤ cap * z := Nat.mul_le_mul_right _ (by omega)
            rw [Nat.add_mul] at this; omega
          refine ⟨.pointer (some ⟨b, off + n.toNat * z, none⟩), ?_, ?_, rfl⟩
          · simp [execOp, ho, hv, h2, Instr.indexAt, asIntOf, run_underlying hdesc, hk1, hk2, (hT e ei he).sizeOf, add_addr, hz]
          · simp only [Den]
            exact ⟨b, off + n.toNat * z, cs, u, rfl, hΓ, hu1, by omega, by rw [hu3, hu2, List.drop_drop]⟩
        · cases h
      · rename_i ei r he hx
        split at h
        · rename_i z E xs hm
          split at h
          · rename_i hz
            have hz : z = ei.cells := Nat.eq_of_beq_eq_true hz
            simp only [Option.some.injEq, Prod.mk.injEq] at h
            obtain ⟨rfl, rfl, rfl, rfl⟩ := h
            obtain ⟨hk1, hk2⟩ := hk
            refine OpOk.pure fun Γ ρ w a hi hf => ?_
            obtain ⟨h1, h1'⟩ := evo_den hf x
            rw [hx] at h1 h1'; simp only [Den] at h1
            have h2 := (evo_den hf i).1
            rw [hi'] at h2; simp only [Den] at h2
            obtain ⟨⟨v, hv1, g⟩, _, _⟩ := hi.priv r _ hm
            rw [h1.1] at hv1; cases hv1
            rcases g with ⟨_, g, _⟩ | ⟨b, arr, cap, g1, g2, _⟩
            · subst g; simp at hk2; omega
            refine ⟨.pointer (some ⟨b, n.toNat * z, none⟩), ?_, ?_, h1'⟩
            · simp [execOp, ho, g2, h2, Instr.indexAt, asIntOf, run_underlying hdesc, hk1, hk2, (hT e ei he).sizeOf, add_addr, hz]
            · simp only [Den]; exact ⟨b, g1, rfl⟩
          · cases h
        · cases h
      · cases h
    · cases h
  · cases h

end
end Go.Proofs.Ytjchmajamlehmaa.X
