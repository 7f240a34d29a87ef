/- Floats: operations whose result is whichever value of a shape. -/
import Derived.Test.YtjchmajamlehmaaXu1
import Derived.Laws.NewFold
namespace Go.Proofs.Ytjchmajamlehmaa.X
open Go Go.RowKit
set_option linter.unusedVariables false

inductive Drs (w : World) : World → Prop
  | refl : Drs w w
  | step {w' : World} : Drs w w' → Drs w w'.drew
theorem Drs.trans {a b c : World} (h : Drs a b) (k : Drs b c) : Drs a c := by
  induction k with
  | refl => exact h
  | step _ ih => exact .step ih
theorem Drs.inv {Γ : Gh} {ρ : Env} {nx : Nat} {mem : Mem} {w w' : World} (h : Drs w w') (hi : Inv Γ ρ nx mem w) : Inv Γ ρ nx mem w' := by
  induction h with
  | refl => exact hi
  | step _ ih => exact ⟨ih.pub, ih.priv, ih.inj⟩
theorem Drs.stp {ρ : Env} {mem : Mem} {w w' : World} (h : Drs w w') : Stp ρ mem w ρ mem w' := by
  induction h with
  | refl => exact Stp.refl _ _ _
  | step _ ih => exact ih.trans ⟨rfl, rfl, rfl, Nat.le_refl _, fun _ _ _ => rfl, fun b hb => .inl hb⟩
def Gives {α : Type} (P : Program) (m : Sem α) (G : α → Prop) : Prop := ∀ w, ∃ v w', Drs w w' ∧ m.run P w = .ok v w' ∧ G v
section
variable {P : Program} {α β : Type}
theorem Gives.pure {v : α} {G : α → Prop} (h : G v) : Gives P (Pure.pure v : Sem α) G := fun w => ⟨v, w, .refl, by simp, h⟩
theorem Gives.bind {m : Sem α} {f : α → Sem β} {G : α → Prop} {H : β → Prop} (h : Gives P m G) (k : ∀ v, G v → Gives P (f v) H) : Gives P (m >>= f) H := fun w => by
  obtain ⟨v, w1, h1, h2, h3⟩ := h w
  obtain ⟨u, w2, k1, k2, k3⟩ := k v h3 w1
  exact ⟨u, w2, h1.trans k1, by rw [Sem.run_bind, h2, Result.andThen_ok, k2], k3⟩
theorem Gives.mono {m : Sem α} {G H : α → Prop} (h : Gives P m G) (k : ∀ v, G v → H v) : Gives P m H := fun w => by
  obtain ⟨v, w1, h1, h2, h3⟩ := h w
  exact ⟨v, w1, h1, h2, k v h3⟩
theorem Gives.choose (q : Question) : Gives P (Go.choose q) (fun _ => True) := fun w => by
  rw [run_choose_drew]
  split
  · exact ⟨_, w, .refl, rfl, trivial⟩
  · exact ⟨_, w.drew, .step .refl, rfl, trivial⟩
def IsF (v : Value) : Prop := ∃ b, v = .float .f64 b
def IsC (v : Value) : Prop := ∃ a b, v = .complex .f64 a b
theorem gives_arith {op : BinOp} (hop : op = .add ∨ op = .sub ∨ op = .mul) (x y : Nat) : Gives P (Op.floatArith op .f64 x y) IsF := by
  unfold Op.floatArith
  have key : ∀ o : Option Nat, Gives P (match o with | some r => (Pure.pure (.float .f64 r) : Sem Value) | none => do Pure.pure (.float .f64 (← Go.choose (.nanBits .f64 x y)))) IsF := fun o => by
    cases o with
    | some r => exact .pure ⟨r, rfl⟩
    | none => exact (Gives.choose _).bind fun b _ => .pure ⟨b, rfl⟩
  rcases hop with rfl | rfl | rfl
  all_goals exact (Gives.pure (G := fun _ => True) trivial).bind fun o _ => key o
theorem gives_ar {op : BinOp} (hop : op = .add ∨ op = .sub ∨ op = .mul) (x y : Nat) : Gives P (Op.Complex.arith op .f64 x y) (fun _ => True) := by
  unfold Op.Complex.arith
  refine (gives_arith hop x y).bind fun v hv => ?_
  obtain ⟨b, rfl⟩ := hv
  exact .pure trivial
theorem gives_cv (x : Nat) : Gives P (Op.Complex.conv .f64 x .f64) (fun _ => True) := by
  unfold Op.Complex.conv
  rw [if_pos rfl]; exact .pure trivial
theorem gives_prod (a b c d : Nat) : Gives P (Op.Complex.product a b c d) (fun _ => True) := by
  unfold Op.Complex.product Op.Complex.mul Op.Complex.sub Op.Complex.add
  refine (gives_ar (by simp) _ _).bind fun _ _ => (gives_ar (by simp) _ _).bind fun _ _ => (gives_ar (by simp) _ _).bind fun _ _ => (gives_ar (by simp) _ _).bind fun _ _ => (gives_ar (by simp) _ _).bind fun _ _ => (gives_ar (by simp) _ _).bind fun _ _ => .pure trivial
theorem gives_cx {op : BinOp} (hop : op = .add ∨ op = .mul) (a b c d : Nat) : Gives P (Op.complexOp op .f64 a b c d) IsC := by
  unfold Op.complexOp
  rcases hop with rfl | rfl
  · exact (gives_ar (by simp) _ _).bind fun x _ => (gives_ar (by simp) _ _).bind fun y _ => .pure ⟨x, y, rfl⟩
  · refine (gives_cv _).bind fun _ _ => (gives_cv _).bind fun _ _ => (gives_cv _).bind fun _ _ => (gives_cv _).bind fun _ _ => ?_
    refine (gives_prod _ _ _ _).bind fun ef _ => ?_
    exact (gives_cv _).bind fun x _ => (gives_cv _).bind fun y _ => .pure ⟨x, y, rfl⟩
def IsI (v : Value) : Prop := ∃ n : Int, v = .int .i64 n ∧ -9223372036854775808 ≤ n ∧ n ≤ 9223372036854775807
theorem gives_fi (b : Nat) : Gives P (Conv.floatToInt .f64 b .i64) IsI := by
  unfold Conv.floatToInt
  have any : Gives P (do Pure.pure (.int .i64 (IntKind.i64.wrap (← Go.choose (.floatToInt .f64 b .i64)))) : Sem Value) IsI := (Gives.choose _).bind fun n _ => .pure ⟨_, rfl, by
    simp only [IntKind.wrap]; have := @IntKind.i64; simp [IntKind.signed, IntKind.bits]; omega⟩
  simp only []
  split
  · split
    · rename_i n _ h; exact .pure ⟨n, rfl, by have e : IntKind.i64.min = -9223372036854775808 := (by decide); rw [← e]; exact h.1, by have e : IntKind.i64.max = 9223372036854775807 := (by decide); rw [← e]; exact h.2⟩
    · exact any
  · exact any
end

theorem wrap64 (n : Int) : 0 ≤ IntKind.u64.wrap n ∧ IntKind.u64.wrap n ≤ 18446744073709551615 := by
  simp only [IntKind.wrap, IntKind.bits, IntKind.signed]; simp; omega
section
variable {rd : Option Nat} {P : Program} {N n0 : Nat} {ops : Array Oper}
theorem fop_ {i : Nat} {K : St → Prop} {s : St} {o : Oper} {d : Nat} (ho : ops.toList[i]? = some o) (hg : gd ops s.fr o.guard = some true) (hd : o.dst = some d) (hdN : Nat.blt d N = true) (G : Value → Prop)
    (hrun : ∀ Γ ρ w a, FrDen Γ ρ s.nx N s.fr a → ∃ v w', Drs w w' ∧ (execOp a.eval o).run P w = .ok (.value v) w' ∧ G v)
    (hk : ∀ v, G v → ∃ sv, (∀ Γ ρ, Den Γ ρ sv v) ∧ (∀ n, sv.bd n = true) ∧ XOi rd P N n0 ops (i + 1) K ⟨(d, sv) :: s.fr, s.mem, s.nx⟩) : XOi rd P N n0 ops i K s := by
  unfold XOi
  rw [drop_cons ho]
  intro Γ ρ w a Q hn hok hQ
  obtain ⟨v, w', hdr, hrun, hG⟩ := hrun Γ ρ w a hok.frame
  obtain ⟨sv, hden, hbd, hx⟩ := hk v hG
  have hp : putS N s.fr o.dst sv = some ((d, sv) :: s.fr) := by simp only [putS, hd, hdN]
  refine wpListIn_step fun K' hK' => ?_
  rw [gd_sound hok.frame hg, if_pos rfl]
  refine ⟨fun _ _ => trivial, ?_⟩
  rw [sem_round hrun (.inl rfl)]
  have hnx : Nxt n0 Γ ρ s w Γ ρ s w' := ⟨hdr.stp, Gh.le_refl _, Env.same_refl _ _, hn, fun _ hb => .inl hb⟩
  exact hK' _ _ (hx Γ ρ w' _ Q hn ⟨hdr.inv hok.inv, by rw [put_defers]; exact hok.marks.step hok.inv hdr.stp (Gh.le_refl _), putS_sound hp hok.frame (hden _ _) (hbd _)⟩ (fun Γ₂ ρ₂ s₂ w₂ a₂ g1 g2 g3 => hQ Γ₂ ρ₂ s₂ w₂ a₂ g1 (hnx.trans ⟨g2.stp, g2.le, g2.same, g2.nx, g2.new⟩) g3))
inductive FO
  | cv (s t : Nat) (x : SV) | ad (x y : SV) | mu (x y : SV) | cx (x y : SV) | re (x : SV) | im (x : SV)
def fIs (fr : Fr) : Op → Option FO
  | .convert s t x => some (.cv s t (evo fr x))
  | .binOp .add _ x y _ => some (.ad (evo fr x) (evo fr y))
  | .binOp .mul _ x y _ => some (.mu (evo fr x) (evo fr y))
  | .call { callee := .builtin .complex, args := ⟨[x, y]⟩, argTypes := _ } => some (.cx (evo fr x) (evo fr y))
  | .call { callee := .builtin .real, args := ⟨[x]⟩, argTypes := _ } => some (.re (evo fr x))
  | .call { callee := .builtin .imag, args := ⟨[x]⟩, argTypes := _ } => some (.im (evo fr x))
  | _ => none
def fAt (N : Nat) (ops : Array Oper) (fr : Fr) (i : Nat) : Option (FO × Nat) := match ops.toList[i]? with
  | some o => match fIs fr o.op, gd ops fr o.guard, o.dst with
    | some fo, some true, some d => match Nat.blt d N with
      | true => some (fo, d)
      | false => none
    | _, _, _ => none
  | none => none
theorem fAt_spec {fr : Fr} {i : Nat} {fo : FO} {d : Nat} (h : fAt N ops fr i = some (fo, d)) : ∃ o, ops.toList[i]? = some o ∧ gd ops fr o.guard = some true ∧ o.dst = some d ∧ Nat.blt d N = true ∧ fIs fr o.op = some fo := by
  unfold fAt at h
  split at h
  · rename_i o ho
    split at h
    · rename_i fo' d' h1 h2 h3
      split at h
      · rename_i h4
        cases h
        exact ⟨o, ho, h2, h3, h4, h1⟩
      · cases h
    · cases h
  · cases h
theorem cx_eq (ats : Array TypeId) (t : TypeId) (a b : Nat) : Builtin.complex_ ats t #[.float .f64 a, .float .f64 b] = Pure.pure (.complex .f64 a b) := rfl
theorem re_eq (ats : Array TypeId) (t : TypeId) (a b : Nat) : Builtin.real_ ats t #[.complex .f64 a b] = Pure.pure (.float .f64 a) := rfl
theorem im_eq (ats : Array TypeId) (t : TypeId) (a b : Nat) : Builtin.imag_ ats t #[.complex .f64 a b] = Pure.pure (.float .f64 b) := rfl
theorem call2_run {e : Operand → Value} {o : Oper} {x y : Operand} {ats : Array TypeId} (ho : o.op = .call { callee := .builtin .complex, args := ⟨[x, y]⟩, argTypes := ats }) {a b : Nat} (hx : e x = .float .f64 a) (hy : e y = .float .f64 b) (w : World) : (execOp e o).run P w = .ok (.value (.complex .f64 a b)) w := by
  simp [execOp, ho, resolve, invoke, builtin, cx_eq, hx, hy]
theorem call_re {e : Operand → Value} {o : Oper} {x : Operand} {ats : Array TypeId} (ho : o.op = .call { callee := .builtin .real, args := ⟨[x]⟩, argTypes := ats }) {a b : Nat} (hx : e x = .complex .f64 a b) (w : World) : (execOp e o).run P w = .ok (.value (.float .f64 a)) w := by
  simp [execOp, ho, resolve, invoke, builtin, re_eq, hx]
theorem call_im {e : Operand → Value} {o : Oper} {x : Operand} {ats : Array TypeId} (ho : o.op = .call { callee := .builtin .imag, args := ⟨[x]⟩, argTypes := ats }) {a b : Nat} (hx : e x = .complex .f64 a b) (w : World) : (execOp e o).run P w = .ok (.value (.float .f64 b)) w := by
  simp [execOp, ho, resolve, invoke, builtin, im_eq, hx]
variable {i : Nat} {K : St → Prop} {s : St} {d : Nat}
theorem raw_den {x : Operand} {fr : Fr} {v : Value} {Γ : Gh} {ρ : Env} {nx : Nat} {a : Act} (hf : FrDen Γ ρ nx N fr a) (h : evo fr x = .raw v) : a.eval x = v := by
  have := (evo_den hf x).1
  rw [h] at this; simp only [Den] at this; exact this.1
theorem int_den {x : Operand} {fr : Fr} {k : IntKind} {n : Int} {Γ : Gh} {ρ : Env} {nx : Nat} {a : Act} (hf : FrDen Γ ρ nx N fr a) (h : evo fr x = .int k n) : a.eval x = .int k n := by
  have := (evo_den hf x).1
  rw [h] at this; simpa only [Den] using this
theorem fop_if {u t : Nat} {k : IntKind} {n : Int} {sd : TypeDesc} (h : fAt N ops s.fr i = some (.cv u t (.int k n), d)) (hu : P.underlying u = some sd) (ht : P.underlying t = some (.float .f64)) (hk : ∀ b : Nat, XOi rd P N n0 ops (i + 1) K ⟨(d, .raw (.float .f64 b)) :: s.fr, s.mem, s.nx⟩) : XOi rd P N n0 ops i K s := by
  obtain ⟨o, h1, h2, h3, h4, h5⟩ := fAt_spec h
  refine fop_ h1 h2 h3 h4 IsF (fun Γ ρ w a hf => ?_) (fun v hv => by obtain ⟨b, rfl⟩ := hv; exact ⟨.raw (.float .f64 b), fun _ _ => by simp only [Den]; exact ⟨trivial, rfl⟩, fun _ => rfl, hk b⟩)
  unfold fIs at h5
  split at h5
  all_goals first | cases h5; done | skip
  rename_i s' t' x hop
  simp only [Option.some.injEq, FO.cv.injEq] at h5
  obtain ⟨rfl, rfl, hx⟩ := h5
  refine ⟨.float .f64 (FloatKind.f64.nearest n), w, .refl, ?_, _, rfl⟩
  simp [execOp, hop, int_den hf hx, convert, run_underlying hu, run_underlying ht, Conv.intToFloat]
theorem fop_fi {u t : Nat} {b : Nat} {sd : TypeDesc} (h : fAt N ops s.fr i = some (.cv u t (.raw (.float .f64 b)), d)) (hu : P.underlying u = some sd) (ht : P.underlying t = some (.int .i64)) (hk : ∀ n : Int, -9223372036854775808 ≤ n ∧ n ≤ 9223372036854775807 → XOi rd P N n0 ops (i + 1) K ⟨(d, .int .i64 n) :: s.fr, s.mem, s.nx⟩) : XOi rd P N n0 ops i K s := by
  obtain ⟨o, h1, h2, h3, h4, h5⟩ := fAt_spec h
  refine fop_ h1 h2 h3 h4 IsI (fun Γ ρ w a hf => ?_) (fun v hv => by obtain ⟨n, rfl, g⟩ := hv; exact ⟨.int .i64 n, fun _ _ => by simp only [Den], fun _ => rfl, hk n g⟩)
  unfold fIs at h5
  split at h5
  all_goals first | cases h5; done | skip
  rename_i s' t' x hop
  simp only [Option.some.injEq, FO.cv.injEq] at h5
  obtain ⟨rfl, rfl, hx⟩ := h5
  obtain ⟨v, w', g1, g2, g3⟩ := gives_fi (P := P) b w
  refine ⟨v, w', g1, ?_, g3⟩
  simp [execOp, hop, raw_den hf hx, convert, run_underlying hu, run_underlying ht, g2]
theorem fop_cx {a b : Nat} (h : fAt N ops s.fr i = some (.cx (.raw (.float .f64 a)) (.raw (.float .f64 b)), d)) (hk : XOi rd P N n0 ops (i + 1) K ⟨(d, .raw (.complex .f64 a b)) :: s.fr, s.mem, s.nx⟩) : XOi rd P N n0 ops i K s := by
  obtain ⟨o, h1, h2, h3, h4, h5⟩ := fAt_spec h
  refine fop_ h1 h2 h3 h4 (fun v => v = .complex .f64 a b) (fun Γ ρ w e hf => ?_) (fun v hv => by subst hv; exact ⟨.raw (.complex .f64 a b), fun _ _ => by simp only [Den]; exact ⟨trivial, rfl⟩, fun _ => rfl, hk⟩)
  unfold fIs at h5
  split at h5
  all_goals first | cases h5; done | skip
  rename_i x y ats hop
  simp only [Option.some.injEq, FO.cx.injEq] at h5
  exact ⟨_, w, .refl, call2_run hop (raw_den hf h5.1) (raw_den hf h5.2) w, rfl⟩
theorem fop_re {a b : Nat} (h : fAt N ops s.fr i = some (.re (.raw (.complex .f64 a b)), d)) (hk : XOi rd P N n0 ops (i + 1) K ⟨(d, .raw (.float .f64 a)) :: s.fr, s.mem, s.nx⟩) : XOi rd P N n0 ops i K s := by
  obtain ⟨o, h1, h2, h3, h4, h5⟩ := fAt_spec h
  refine fop_ h1 h2 h3 h4 (fun v => v = .float .f64 a) (fun Γ ρ w e hf => ?_) (fun v hv => by subst hv; exact ⟨.raw (.float .f64 a), fun _ _ => by simp only [Den]; exact ⟨trivial, rfl⟩, fun _ => rfl, hk⟩)
  unfold fIs at h5
  split at h5
  all_goals first | cases h5; done | skip
  rename_i x ats hop
  simp only [Option.some.injEq, FO.re.injEq] at h5
  exact ⟨_, w, .refl, call_re hop (raw_den hf h5) w, rfl⟩
theorem fop_im {a b : Nat} (h : fAt N ops s.fr i = some (.im (.raw (.complex .f64 a b)), d)) (hk : XOi rd P N n0 ops (i + 1) K ⟨(d, .raw (.float .f64 b)) :: s.fr, s.mem, s.nx⟩) : XOi rd P N n0 ops i K s := by
  obtain ⟨o, h1, h2, h3, h4, h5⟩ := fAt_spec h
  refine fop_ h1 h2 h3 h4 (fun v => v = .float .f64 b) (fun Γ ρ w e hf => ?_) (fun v hv => by subst hv; exact ⟨.raw (.float .f64 b), fun _ _ => by simp only [Den]; exact ⟨trivial, rfl⟩, fun _ => rfl, hk⟩)
  unfold fIs at h5
  split at h5
  all_goals first | cases h5; done | skip
  rename_i x ats hop
  simp only [Option.some.injEq, FO.im.injEq] at h5
  exact ⟨_, w, .refl, call_im hop (raw_den hf h5) w, rfl⟩
theorem fop_ad {a b a' b' : Nat} (h : fAt N ops s.fr i = some (.ad (.raw (.complex .f64 a b)) (.raw (.complex .f64 a' b')), d)) (hk : ∀ u v : Nat, XOi rd P N n0 ops (i + 1) K ⟨(d, .raw (.complex .f64 u v)) :: s.fr, s.mem, s.nx⟩) : XOi rd P N n0 ops i K s := by
  obtain ⟨o, h1, h2, h3, h4, h5⟩ := fAt_spec h
  refine fop_ h1 h2 h3 h4 IsC (fun Γ ρ w e hf => ?_) (fun v hv => by obtain ⟨x, y, rfl⟩ := hv; exact ⟨.raw (.complex .f64 x y), fun _ _ => by simp only [Den]; exact ⟨trivial, rfl⟩, fun _ => rfl, hk x y⟩)
  unfold fIs at h5
  split at h5
  all_goals first | cases h5; done | skip
  rename_i x y ats hop
  simp only [Option.some.injEq, FO.ad.injEq] at h5
  obtain ⟨v, w', g1, g2, g3⟩ := gives_cx (P := P) (op := .add) (.inl rfl) a b a' b' w
  refine ⟨v, w', g1, ?_, g3⟩
  simp [execOp, hop, raw_den hf h5.1, raw_den hf h5.2, eqGuard, binOp, g2]
theorem fop_mu {a b a' b' : Nat} (h : fAt N ops s.fr i = some (.mu (.raw (.complex .f64 a b)) (.raw (.complex .f64 a' b')), d)) (hk : ∀ u v : Nat, XOi rd P N n0 ops (i + 1) K ⟨(d, .raw (.complex .f64 u v)) :: s.fr, s.mem, s.nx⟩) : XOi rd P N n0 ops i K s := by
  obtain ⟨o, h1, h2, h3, h4, h5⟩ := fAt_spec h
  refine fop_ h1 h2 h3 h4 IsC (fun Γ ρ w e hf => ?_) (fun v hv => by obtain ⟨x, y, rfl⟩ := hv; exact ⟨.raw (.complex .f64 x y), fun _ _ => by simp only [Den]; exact ⟨trivial, rfl⟩, fun _ => rfl, hk x y⟩)
  unfold fIs at h5
  split at h5
  all_goals first | cases h5; done | skip
  rename_i x y ats hop
  simp only [Option.some.injEq, FO.mu.injEq] at h5
  obtain ⟨v, w', g1, g2, g3⟩ := gives_cx (P := P) (op := .mul) (.inr rfl) a b a' b' w
  refine ⟨v, w', g1, ?_, g3⟩
  simp [execOp, hop, raw_den hf h5.1, raw_den hf h5.2, eqGuard, binOp, g2]
end
section
variable {rd : Option Nat} {P : Program} {N n0 : Nat} {K : XE → St → Prop} {s : St} {α : Type} {I : α → St}
def Join (N n0 : Nat) (I : α → St) (K : XE → St → Prop) : XE → St → Prop
  | .normal, s => ∃ y, Le N n0 s (I y)
  | e, s => K e s
theorem xw_join {x y : Code} (I : α → St) (h1 : XW rd P N n0 x (Join N n0 I K) s) (h2 : ∀ v, XW rd P N n0 y K (I v)) : XW rd P N n0 (.seq x y) K s :=
  xw_seq (xw_mono h1 fun e s' h => by
    cases e with
    | normal => obtain ⟨v, hle⟩ := h; exact xw_le hle (h2 v)
    | _ => exact h)
theorem jn (y : α) (h : Le N n0 s (I y)) : Join N n0 I K .normal s := ⟨y, h⟩
end
end Go.Proofs.Ytjchmajamlehmaa.X
