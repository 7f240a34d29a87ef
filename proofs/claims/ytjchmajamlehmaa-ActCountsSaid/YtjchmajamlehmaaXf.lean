/- The operations, part 4: numbers, tests, structs as values, slices, closures. -/
import Derived.Test.YtjchmajamlehmaaXe
import Derived.Great.BuildSlice
namespace Go.Proofs.Ytjchmajamlehmaa.X
open Go Go.RowKit

mutual
def eqv (T : Tab) : Nat → Nat → List SV → List SV → Option Bool
  | 0, _, _, _ => none
  | d + 1, t, xs, ys => match fnd T t with
    | some ti => match ti.d with
      | .int k => match xs, ys with
        | [.int k1 a], [.int k2 b] => match k, k1, k2 with
          | .i64, .i64, .i64 => some (a == b)
          | .u64, .u64, .u64 => some (a == b)
          | _, _, _ => none
        | _, _ => none
      | .bool => match xs, ys with
        | [.bool a], [.bool b] => some (a == b)
        | _, _ => none
      | .struct fs => match ti.eq with
        | true => eqvF T d fs xs ys
        | false => none
      | _ => none
    | none => none
def eqvF (T : Tab) : Nat → List (Nat × Nat) → List SV → List SV → Option Bool
  | 0, _, _, _ => none
  | _, [], _, _ => some true
  | d + 1, (o, ft) :: fs, xs, ys => match fnd T ft with
    | some fi => match Nat.ble (o + fi.cells) xs.length, Nat.ble (o + fi.cells) ys.length, (match fi.agg with | true => true | false => Nat.beq fi.cells 1) with
      | true, true, true => match eqv T d ft ((xs.drop o).take fi.cells) ((ys.drop o).take fi.cells), eqvF T d fs xs ys with
        | some a, some b => some (a && b)
        | _, _ => none
      | _, _, _ => none
    | none => none
end

section
variable {P : Program} {T : Tab}

def ValOf (ti : TI) (cs : List Value) (v : Value) : Prop := if ti.agg = true then v = .agg cs.toArray else cs = [v]

theorem run_part {t : Nat} {ti : TI} (ht : TIok P t ti) (cs : Array Value) (off : Nat) (hle : off + ti.cells ≤ cs.size) (h1 : ti.agg = true ∨ ti.cells = 1) (w : World) :
    ∃ v, (part t cs off).run P w = .ok v w ∧ ValOf ti ((cs.toList.drop off).take ti.cells) v := by
  unfold part ValOf
  cases ha : ti.agg with
  | true =>
    refine ⟨.agg (cs.extract off (off + ti.cells)), by simp [ht.isAgg, ha, ht.sizeOf], ?_⟩
    simp only [if_true]
    congr 1
    apply Array.toList_inj.1
    simp
  | false =>
    have hc : ti.cells = 1 := by rcases h1 with h1 | h1 <;> simp_all
    have hlt : off < cs.size := by omega
    refine ⟨cs[off], by simp [ht.isAgg, ha, hlt], ?_⟩
    simp only [Bool.false_eq_true, if_false, hc]
    rw [List.drop_eq_getElem_cons (by simpa using hlt), List.take_succ_cons, List.take_zero]
    simp

mutual
theorem eqv_sound (hT : TabOk P T) : ∀ (d n t : Nat) (ti : TI) (xs ys : List SV) (b : Bool), eqv T d t xs ys = some b → fnd T t = some ti → d ≤ n → ∀ {Γ : Gh} {ρ : Env} {vs us : List Value} {v u : Value}, DenL Γ ρ xs vs → DenL Γ ρ ys us → ValOf ti vs v → ValOf ti us u → ∀ w : World, (Op.equalIn n t v u).run P w = .ok b w
  | 0, _, _, _, _, _, _, h, _, _, _, _, _, _, _, _, _, _, _, _, _ => by simp [eqv] at h
  | d + 1, 0, _, _, _, _, _, _, _, hn, _, _, _, _, _, _, _, _, _, _, _ => by omega
  | d + 1, n + 1, t, ti, xs, ys, b, h, hti, hn, Γ, ρ, vs, us, v, u, hx, hy, hv, hu, w => by
    simp only [eqv, hti] at h
    have ht := hT t ti hti
    have hdesc := ht.desc
    have hund := ht.und
    split at h
    · rename_i k hd
      rw [hd] at hdesc; simp only [DescOk] at hdesc
      rw [hdesc] at hund
      have ha : ti.agg = false := by simpa [isAggD] using hund.symm
      split at h
      · rename_i k1 a k2 b'
        simp only [DenL, Den] at hx hy
        obtain ⟨x1, r1, rfl, rfl, rfl⟩ := hx
        obtain ⟨x2, r2, rfl, rfl, rfl⟩ := hy
        simp only [ValOf, ha, Bool.false_eq_true, if_false, List.cons.injEq, and_true] at hv hu
        subst hv hu
        split at h
        · cases h; exact run_equalIn_int w n t _ _ _ _ hdesc
        · cases h; exact run_equalIn_int w n t _ _ _ _ hdesc
        · cases h
      · cases h
    · rename_i hd
      rw [hd] at hdesc; simp only [DescOk] at hdesc
      rw [hdesc] at hund
      have ha : ti.agg = false := by simpa [isAggD] using hund.symm
      split at h
      · simp only [DenL, Den] at hx hy
        obtain ⟨x1, r1, rfl, rfl, rfl⟩ := hx
        obtain ⟨x2, r2, rfl, rfl, rfl⟩ := hy
        simp only [ValOf, ha, Bool.false_eq_true, if_false, List.cons.injEq, and_true] at hv hu
        subst hv hu
        cases h; exact run_equalIn_bool' w n t _ _ hdesc
      · cases h
    · rename_i fs hd
      rw [hd] at hdesc; simp only [DescOk] at hdesc
      split at h
      · rename_i heq
        obtain ⟨e1, e2, e3⟩ := ht.eq heq
        cases hq : P.underlying t with
        | none => simp [hq] at hdesc
        | some desc =>
          rw [hq] at hdesc hund e3
          cases desc with
          | struct fa =>
            simp only [Option.bind_some, structFs, Option.some.injEq] at hdesc
            have ha : ti.agg = true := by simpa [isAggD] using hund.symm
            simp only [ValOf, ha, if_true] at hv hu
            subst hv hu
            have hf : P.fieldsOf t = fa := by simp [Program.fieldsOf, hq]
            rw [run_equalIn_struct w n t _ _ (by rw [hf]; exact hq) e1, hf]
            simp only [Option.map_some, Option.some.injEq, noBlank] at e3
            subst hdesc
            exact eqvF_sound hT d n fa.toList xs ys b h (by omega) hx hy (by simpa using e3) w
          | _ => simp [structFs] at hdesc
      · cases h
    · cases h
theorem eqvF_sound (hT : TabOk P T) : ∀ (d n : Nat) (fa : List Field) (xs ys : List SV) (b : Bool), eqvF T d (fa.map fun f => (f.offset, f.type)) xs ys = some b → d ≤ n → ∀ {Γ : Gh} {ρ : Env} {vs us : List Value}, DenL Γ ρ xs vs → DenL Γ ρ ys us → (fa.all fun f => f.name != "_") = true →
    ∀ w : World, (Op.eqFields n vs.toArray us.toArray fa).run P w = .ok b w
  | 0, _, _, _, _, _, h, _, _, _, _, _, _, _, _, _ => by simp [eqvF] at h
  | d + 1, n, [], _, _, b, h, _, _, _, _, _, _, _, _, w => by
    simp [eqvF] at h; subst h
    simp [Op.eqFields]
  | d + 1, n, f :: fa, xs, ys, b, h, hn, Γ, ρ, vs, us, hx, hy, hnb, w => by
    simp only [List.map_cons, eqvF] at h
    simp only [List.all_cons, Bool.and_eq_true] at hnb
    split at h
    · rename_i fi hfi
      split at h
      · rename_i h1 h2 h3
        split at h
        · rename_i p q hp hq
          cases h
          have ht := hT _ fi hfi
          have h3' : fi.agg = true ∨ fi.cells = 1 := by
            split at h3
            · rename_i ha; exact .inl ha
            · exact .inr (Nat.eq_of_beq_eq_true h3)
          have hl1 := hx.length; have hl2 := hy.length
          obtain ⟨v, hv1, hv2⟩ := run_part ht vs.toArray f.offset (by have := Nat.le_of_ble_eq_true h1; simp; omega) h3' w
          obtain ⟨u, hu1, hu2⟩ := run_part ht us.toArray f.offset (by have := Nat.le_of_ble_eq_true h2; simp; omega) h3' w
          have he := eqv_sound hT d n f.type fi _ _ p hp hfi (by omega) ((hx.drop f.offset).take fi.cells) ((hy.drop f.offset).take fi.cells) (by simpa using hv2) (by simpa using hu2) w
          have hname : f.name ≠ "_" := by simpa using hnb.1
          have ih := eqvF_sound hT d n fa xs ys q hq (by omega) hx hy hnb.2 w
          simp only [Op.eqFields, hname, ne_eq, not_false_eq_true, if_true, Sem.run_bind, hv1, hu1, Result.andThen_ok, he]
          cases p
          · simp
          · simpa using ih
        · cases h
      · cases h
    · cases h
end

def eqAgg (T : Tab) (t : Nat) (xs ys : List SV) : Option Bool :=
  match fnd T t with
  | some ti => match ti.eq, ti.agg with
    | true, true => eqv T 50 t xs ys
    | _, _ => none
  | none => none

theorem eqAgg_sound (hT : TabOk P T) {t : Nat} {xs ys : List SV} {b : Bool} (h : eqAgg T t xs ys = some b) {Γ : Gh} {ρ : Env} {vs us : Array Value} (hx : DenL Γ ρ xs vs.toList) (hy : DenL Γ ρ ys us.toList) (x y : Operand) (w : World) (op : BinOp) :
    (eqGuard op t x y (.agg vs) (.agg us)).run P w = .ok () w ∧ (Op.equalIn 10000 t (.agg vs) (.agg us)).run P w = .ok b w := by
  unfold eqAgg at h
  split at h
  · rename_i ti hti
    split at h
    · rename_i he ha
      refine ⟨run_eqGuard_agg w op t x y vs us ((hT t ti hti).eq he).2.1, ?_⟩
      exact eqv_sound hT 50 10000 t ti xs ys b h hti (by omega) hx hy (by simp [ValOf, ha]) (by simp [ValOf, ha]) w
    · cases h
  · cases h

def xbin (T : Tab) (op : BinOp) (t : Nat) (a b : SV) (q : SV) : Option (SV × Prop) := match op, a, b, q with
  | .add, .int .i64 x, .int .i64 y, .int _ r => some (.int .i64 r, IntKind.i64.wrap (x + y) = r)
  | .add, .int .u64 x, .int .u64 y, .int _ r => some (.int .u64 r, IntKind.u64.wrap (x + y) = r)
  | .sub, .int .i64 x, .int .i64 y, .int _ r => some (.int .i64 r, IntKind.i64.wrap (x - y) = r)
  | .sub, .int .u64 x, .int .u64 y, .int _ r => some (.int .u64 r, IntKind.u64.wrap (x - y) = r)
  | .mul, .int .i64 x, .int .i64 y, .int _ r => some (.int .i64 r, IntKind.i64.wrap (x * y) = r)
  | .mul, .int .u64 x, .int .u64 y, .int _ r => some (.int .u64 r, IntKind.u64.wrap (x * y) = r)
  | .quo, .int .u64 x, .int .u64 y, .int _ r => some (.int .u64 r, y ≠ 0 ∧ IntKind.u64.wrap (x.tdiv y) = r)
  | .quo, .int .i64 x, .int .i64 y, .int _ r => some (.int .i64 r, y ≠ 0 ∧ IntKind.i64.wrap (x.tdiv y) = r)
  | .rem, .int .u64 x, .int .u64 y, .int _ r => some (.int .u64 r, y ≠ 0 ∧ x.tmod y = r)
  | .rem, .int .i64 x, .int .i64 y, .int _ r => some (.int .i64 r, y ≠ 0 ∧ x.tmod y = r)
  | .shl, .int k x, .int _ y, .int _ r => some (.int k r, 0 ≤ y ∧ k.wrap (x * 2 ^ min y.toNat k.bits) = r)
  | .shr, .int k x, .int _ y, .int _ r => some (.int k r, 0 ≤ y ∧ x.fdiv (2 ^ min y.toNat k.bits) = r)
  | .and, .int .u64 x, .int .u64 y, .int _ r => some (.int .u64 r, IntKind.u64.wrap (BitVec.ofInt 64 x &&& BitVec.ofInt 64 y).toNat = r)
  | .or, .int .u64 x, .int .u64 y, .int _ r => some (.int .u64 r, IntKind.u64.wrap (BitVec.ofInt 64 x ||| BitVec.ofInt 64 y).toNat = r)
  | .eql, .int .i64 x, .int .i64 y, .bool r => some (.bool r, (x == y) = r)
  | .eql, .int .u64 x, .int .u64 y, .bool r => some (.bool r, (x == y) = r)
  | .neq, .int .i64 x, .int .i64 y, .bool r => some (.bool r, (x != y) = r)
  | .neq, .int .u64 x, .int .u64 y, .bool r => some (.bool r, (x != y) = r)
  | .lss, .int .i64 x, .int .i64 y, .bool r => some (.bool r, decide (x < y) = r)
  | .lss, .int .u64 x, .int .u64 y, .bool r => some (.bool r, decide (x < y) = r)
  | .leq, .int .i64 x, .int .i64 y, .bool r => some (.bool r, decide (x ≤ y) = r)
  | .leq, .int .u64 x, .int .u64 y, .bool r => some (.bool r, decide (x ≤ y) = r)
  | .gtr, .int .i64 x, .int .i64 y, .bool r => some (.bool r, decide (y < x) = r)
  | .gtr, .int .u64 x, .int .u64 y, .bool r => some (.bool r, decide (y < x) = r)
  | .geq, .int .i64 x, .int .i64 y, .bool r => some (.bool r, decide (y ≤ x) = r)
  | .geq, .int .u64 x, .int .u64 y, .bool r => some (.bool r, decide (y ≤ x) = r)
  | .eql, .bool x, .bool y, .bool r => match fnd T t with
    | some ti => match ti.d with
      | .bool => some (.bool r, (x == y) = r)
      | _ => none
    | none => none
  | .neq, .bool x, .bool y, .bool r => match fnd T t with
    | some ti => match ti.d with
      | .bool => some (.bool r, (!(x == y)) = r)
      | _ => none
    | none => none
  | .eql, .agg xs, .agg ys, .bool r => match eqAgg T t xs ys with
    | some e => some (.bool r, e = r)
    | none => none
  | .neq, .agg xs, .agg ys, .bool r => match eqAgg T t xs ys with
    | some e => some (.bool r, (!e) = r)
    | none => none
  | _, _, _, _ => none

theorem eqGuard_ok (op : BinOp) (t : TypeId) (x y : Operand) (a b : Value) (w : World) (ha : ∀ cs, a ≠ .agg cs) (hn : a ≠ .nilIface) : (eqGuard op t x y a b).run P w = .ok () w := by
  have key : (match a, b with
    | Value.nilIface, Value.nilIface =>
      if (x matches .const _) || (y matches .const _) then (Pure.pure () : Sem Unit) else do
        if ← Op.eqGuardIn Op.maxDepth t a b then unsupported (.noEntry "binop/eql: two nil values of an interface type with methods, neither of them the literal nil")
    | .agg _, .agg _ => do
      if !(← program).eqGuardType (← program).depth t then return
      if ← Op.eqGuardIn Op.maxDepth t a b then unsupported (.noEntry "binop/eql: two nil values of an interface type with methods, in a part of a struct or an array")
    | _, _ => Pure.pure ()).run P w = .ok () w := by
    split
    · exact absurd rfl hn
    · exact absurd rfl (ha _)
    · rfl
  cases op <;> first | rfl | (simp only [eqGuard]; exact key)

theorem xbin_sound (hT : TabOk P T) {op : BinOp} {t : Nat} {x y : Operand} {a b q sv : SV} {k : Prop} (h : xbin T op t a b q = some (sv, k)) (hk : k) {Γ : Gh} {ρ : Env} {va vb : Value} (ha : Den Γ ρ a va) (hb : Den Γ ρ b vb) (w : World) :
    ∃ v, (do eqGuard op t x y va vb; binOp op t va vb : Sem Value).run P w = .ok v w ∧ Den Γ ρ sv v ∧ ∀ n, sv.bd n = true := by
  unfold xbin at h
  split at h
  all_goals first
    | (simp only [Option.some.injEq, Prod.mk.injEq] at h
       obtain ⟨rfl, rfl⟩ := h
       simp only [Den] at ha hb
       subst ha hb
       first
        | (subst hk
           refine ⟨.int _ _, ?_, by simp only [Den]; exact rfl, fun _ => rfl⟩
           rw [Sem.run_bind, eqGuard_ok _ _ _ _ _ _ _ (by simp) (by simp)]
           first
            | (simp [binOp, Op.intArith]; done)
            | rfl
           done)
        | (obtain ⟨hk1, rfl⟩ := hk
           refine ⟨.int _ _, ?_, by simp only [Den]; exact rfl, fun _ => rfl⟩
           rw [Sem.run_bind, eqGuard_ok _ _ _ _ _ _ _ (by simp) (by simp)]
           simp [binOp, Op.intDiv, hk1]
           done)
        | (obtain ⟨hk1, rfl⟩ := hk
           refine ⟨.int _ _, ?_, by simp only [Den]; exact rfl, fun _ => rfl⟩
           rw [Sem.run_bind, eqGuard_ok _ _ _ _ _ _ _ (by simp) (by simp)]
           have hk1' := Int.not_lt.2 hk1
           simp [binOp, Op.shift, hk1']
           done)
        | (subst hk
           refine ⟨.bool _, ?_, by simp only [Den]; exact rfl, fun _ => rfl⟩
           rw [Sem.run_bind, eqGuard_ok _ _ _ _ _ _ _ (by simp) (by simp)]
           simp [binOp, Op.intCmp]
           done))
    | skip
  · split at h
    · rename_i ti hti
      have hdesc := (hT t ti hti).desc
      split at h
      · rename_i hd
        rw [hd] at hdesc; simp only [DescOk] at hdesc
        simp only [Option.some.injEq, Prod.mk.injEq] at h
        obtain ⟨rfl, rfl⟩ := h
        simp only [Den] at ha hb
        subst ha hb
        refine ⟨.bool _, ?_, by simp only [Den]; exact rfl, fun _ => rfl⟩
        rw [Sem.run_bind, eqGuard_ok _ _ _ _ _ _ _ (by simp) (by simp), Result.andThen_ok, run_eql_bool w t _ _ hdesc, hk]
      · cases h
    · cases h
  · split at h
    · rename_i ti hti
      have hdesc := (hT t ti hti).desc
      split at h
      · rename_i hd
        rw [hd] at hdesc; simp only [DescOk] at hdesc
        simp only [Option.some.injEq, Prod.mk.injEq] at h
        obtain ⟨rfl, rfl⟩ := h
        simp only [Den] at ha hb
        subst ha hb
        refine ⟨.bool _, ?_, by simp only [Den]; exact rfl, fun _ => rfl⟩
        rw [Sem.run_bind, eqGuard_ok _ _ _ _ _ _ _ (by simp) (by simp), Result.andThen_ok, run_neq_bool w t _ _ hdesc, hk]
      · cases h
    · cases h
  · split at h
    · rename_i e he
      simp only [Option.some.injEq, Prod.mk.injEq] at h
      obtain ⟨rfl, rfl⟩ := h
      simp only [Den] at ha hb
      obtain ⟨vs, rfl, ha⟩ := ha
      obtain ⟨us, rfl, hb⟩ := hb
      refine ⟨.bool _, ?_, by simp only [Den]; exact rfl, fun _ => rfl⟩
      obtain ⟨h1, h2⟩ := eqAgg_sound hT he ha hb x y w .eql
      rw [Sem.run_bind, h1, Result.andThen_ok, run_eql_struct, h2, Result.andThen_ok, hk]
    · cases h
  · split at h
    · rename_i e he
      simp only [Option.some.injEq, Prod.mk.injEq] at h
      obtain ⟨rfl, rfl⟩ := h
      simp only [Den] at ha hb
      obtain ⟨vs, rfl, ha⟩ := ha
      obtain ⟨us, rfl, hb⟩ := hb
      refine ⟨.bool _, ?_, by simp only [Den]; exact rfl, fun _ => rfl⟩
      obtain ⟨h1, h2⟩ := eqAgg_sound hT he ha hb x y w .neq
      rw [Sem.run_bind, h1, Result.andThen_ok, run_neq_struct, h2, Result.andThen_ok, hk]
    · cases h
  · cases h
end
end Go.Proofs.Ytjchmajamlehmaa.X
