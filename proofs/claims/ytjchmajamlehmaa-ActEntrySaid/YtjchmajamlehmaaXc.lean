/- Tables of types, list laws, and the operations: their symbolic results and that these are right. Part 1. -/
import Derived.Test.YtjchmajamlehmaaXb
import Derived.Laws.StructEq
namespace Go.Proofs.Ytjchmajamlehmaa.X
open Go Go.RowKit

inductive TD where
  | bool | int (k : IntKind) | other
  | struct (fs : List (Nat × Nat))
  | arr (len elem : Nat)
  | slice (elem : Nat)
  | map (key elem : Nat)

structure TI where
  cells : Nat
  agg : Bool
  bytes : Nat
  eq : Bool
  d : TD
  zero : List SV

abbrev Tab := List (Nat × TI)

def SV.const : SV → Option Value
  | .int k n => some (.int k n)
  | .bool b => some (.bool b)
  | .nils => some (.slice none 0 0)
  | .raw v => if v.oneCell' then some v else none
  | _ => none

def structFs : TypeDesc → Option (List (Nat × Nat))
  | .struct fa => some (fa.toList.map fun f => (f.offset, f.type))
  | _ => none
def noBlank : TypeDesc → Bool
  | .struct fa => fa.toList.all fun f => f.name != "_"
  | _ => true
def isAggD : TypeDesc → Bool
  | .struct _ | .array _ _ => true
  | _ => false

def DescOk (P : Program) (t : Nat) : TD → Prop
  | .bool => P.underlying t = some .bool
  | .int k => P.underlying t = some (.int k)
  | .other => True
  | .struct fs => (P.underlying t).bind structFs = some fs
  | .arr n e => P.underlying t = some (.array n e)
  | .slice e => P.underlying t = some (.slice e)
  | .map k e => P.underlying t = some (.map k e)

structure TIok (P : Program) (t : Nat) (ti : TI) : Prop where
  info : (P.info? t).map (fun i => (i.size, i.bytes)) = some (ti.cells, ti.bytes)
  zero : ((P.info? t).bind (·.zero)).map (fun zv => zv.cells.toList.map some) = some (ti.zero.map SV.const)
  zlen : ti.zero.length = ti.cells
  und : (P.underlying t).map isAggD = some ti.agg
  desc : DescOk P t ti.d
  eq : ti.eq = true → P.stoodInHeld t = false ∧ P.eqGuardType P.depth t = false ∧ (P.underlying t).map noBlank = some true
  one : ti.agg = false → ((P.info? t).bind (·.zero)).map Value.oneCell' = some true

def TabOk (P : Program) (T : Tab) : Prop := ∀ t ti, fnd T t = some ti → TIok P t ti

theorem tabOk_nil (P : Program) : TabOk P [] := fun _ _ h => by simp [fnd] at h
theorem tabOk_cons {P : Program} {T : Tab} {t : Nat} {ti : TI} (h : TIok P t ti) (hT : TabOk P T) : TabOk P ((t, ti) :: T) := fun u ui hu => by
  rw [fnd_cons] at hu
  split at hu
  · rename_i e; subst e; cases hu; exact h
  · exact hT u ui hu

section
variable {P : Program} {t : Nat} {ti : TI}
theorem TIok.typeInfo (h : TIok P t ti) : ∃ i, (∀ w, (typeInfo t).run P w = .ok i w) ∧ i.size = ti.cells ∧ i.bytes = ti.bytes ∧ P.info? t = some i := by
  have hi := h.info
  cases hq : P.info? t with
  | none => simp [hq] at hi
  | some i =>
    simp [hq] at hi
    exact ⟨i, fun w => by simp [Go.typeInfo, hq], hi.1, hi.2, rfl⟩
theorem TIok.sizeOf (h : TIok P t ti) (w : World) : (sizeOf t).run P w = .ok ti.cells w := by
  obtain ⟨i, h1, h2, _⟩ := h.typeInfo
  simp [Go.sizeOf, h1, h2]
theorem TIok.isAgg (h : TIok P t ti) (w : World) : (isAgg t).run P w = .ok ti.agg w := by
  have hu := h.und
  cases hq : P.underlying t with
  | none => simp [hq] at hu
  | some d =>
    simp [hq] at hu
    unfold Go.isAgg
    rw [Sem.run_bind, run_underlying hq w]
    cases d <;> simp_all [isAggD]
theorem TIok.zeroValue (h : TIok P t ti) : ∃ zv : Value, (∀ w, (zeroValue t).run P w = .ok zv w) ∧ zv.cells.toList.map some = ti.zero.map SV.const := by
  obtain ⟨i, h1, _, _, hi⟩ := h.typeInfo
  have hz := h.zero
  rw [hi] at hz
  cases hq : i.zero with
  | none => simp [hq] at hz
  | some zv =>
    simp [hq] at hz
    exact ⟨zv, fun w => by simp [Go.zeroValue, h1, hq], hz⟩
end

section
variable {Γ : Gh} {ρ : Env}
theorem DenL.length : ∀ {l : List SV} {vs : List Value}, DenL Γ ρ l vs → vs.length = l.length
  | [], _, h => by simp only [DenL] at h; simp [h]
  | s :: l, vs, h => by
    simp only [DenL] at h
    obtain ⟨v, r, e, _, h2⟩ := h
    subst e
    simp [DenL.length h2]
theorem DenL.drop : ∀ (n : Nat) {l : List SV} {vs : List Value}, DenL Γ ρ l vs → DenL Γ ρ (l.drop n) (vs.drop n)
  | 0, _, _, h => by simpa using h
  | n + 1, [], vs, h => by simp only [DenL] at h; subst h; simp [DenL]
  | n + 1, s :: l, vs, h => by
    simp only [DenL] at h
    obtain ⟨v, r, e, _, h2⟩ := h
    subst e
    simpa using DenL.drop n h2
theorem DenL.take : ∀ (n : Nat) {l : List SV} {vs : List Value}, DenL Γ ρ l vs → DenL Γ ρ (l.take n) (vs.take n)
  | 0, _, _, _ => by simp [DenL]
  | n + 1, [], vs, h => by simp only [DenL] at h; subst h; simp [DenL]
  | n + 1, s :: l, vs, h => by
    simp only [DenL] at h
    obtain ⟨v, r, e, h1, h2⟩ := h
    subst e
    simp only [List.take_succ_cons, DenL]
    exact ⟨v, _, rfl, h1, DenL.take n h2⟩
theorem DenL.append : ∀ {l l' : List SV} {vs vs' : List Value}, DenL Γ ρ l vs → DenL Γ ρ l' vs' → DenL Γ ρ (l ++ l') (vs ++ vs')
  | [], _, _, _, h, h' => by simp only [DenL] at h; subst h; simpa using h'
  | s :: l, l', vs, vs', h, h' => by
    simp only [DenL] at h
    obtain ⟨v, r, e, h1, h2⟩ := h
    subst e
    simp only [List.cons_append, DenL]
    exact ⟨v, _, rfl, h1, DenL.append h2 h'⟩
theorem DenL.get : ∀ {l : List SV} {vs : List Value} (i : Nat) {s : SV}, DenL Γ ρ l vs → l[i]? = some s → ∃ v, vs[i]? = some v ∧ Den Γ ρ s v
  | [], _, i, s, _, hi => by simp at hi
  | x :: l, vs, 0, s, h, hi => by
    simp only [DenL] at h
    obtain ⟨v, r, e, h1, _⟩ := h
    subst e
    simp at hi; subst hi
    exact ⟨v, rfl, h1⟩
  | x :: l, vs, i + 1, s, h, hi => by
    simp only [DenL] at h
    obtain ⟨v, r, e, _, h2⟩ := h
    subst e
    simp at hi
    simpa using DenL.get i h2 hi
theorem DenL.map {α : Type} (f : α → SV) (g : α → Value) : ∀ (l : List α), (∀ x ∈ l, Den Γ ρ (f x) (g x)) → DenL Γ ρ (l.map f) (l.map g)
  | [], _ => by simp [DenL]
  | x :: l, h => by
    simp only [List.map_cons, DenL]
    exact ⟨g x, _, rfl, h x (by simp), DenL.map f g l (fun y hy => h y (by simp [hy]))⟩
end
theorem bdL_drop {n : Nat} : ∀ (k : Nat) {l : List SV}, bdL n l = true → bdL n (l.drop k) = true
  | 0, _, h => by simpa using h
  | k + 1, [], _ => by simp [bdL]
  | k + 1, s :: l, h => by
    simp only [bdL, Bool.and_eq_true] at h
    simpa using bdL_drop k h.2
theorem bdL_take {n : Nat} : ∀ (k : Nat) {l : List SV}, bdL n l = true → bdL n (l.take k) = true
  | 0, _, _ => by simp [bdL]
  | k + 1, [], _ => by simp [bdL]
  | k + 1, s :: l, h => by
    simp only [bdL, Bool.and_eq_true] at h
    simp only [List.take_succ_cons, bdL, Bool.and_eq_true]
    exact ⟨h.1, bdL_take k h.2⟩
theorem bdL_append {n : Nat} : ∀ {l l' : List SV}, bdL n l = true → bdL n l' = true → bdL n (l ++ l') = true
  | [], _, _, h => by simpa using h
  | s :: l, l', h, h' => by
    simp only [bdL, Bool.and_eq_true] at h
    simp only [List.cons_append, bdL, Bool.and_eq_true]
    exact ⟨h.1, bdL_append h.2 h'⟩
theorem bdL_get {n : Nat} : ∀ {l : List SV} (i : Nat) {s : SV}, bdL n l = true → l[i]? = some s → s.bd n = true
  | [], i, s, _, hi => by simp at hi
  | x :: l, 0, s, h, hi => by
    simp only [bdL, Bool.and_eq_true] at h
    simp at hi; subst hi; exact h.1
  | x :: l, i + 1, s, h, hi => by
    simp only [bdL, Bool.and_eq_true] at h
    simp at hi
    exact bdL_get i h.2 hi

def SV.single : SV → Bool
  | .agg _ | .tup _ | .junk => false
  | _ => true
theorem Den.single {Γ : Gh} {ρ : Env} : ∀ {s : SV} {v : Value}, Den Γ ρ s v → s.single = true → v.oneCell' = true
  | .int _ _, v, h, _ => by simp only [Den] at h; subst h; rfl
  | .bool _, v, h, _ => by simp only [Den] at h; subst h; rfl
  | .loc _ _, v, h, _ => by simp only [Den] at h; obtain ⟨_, _, rfl⟩ := h; rfl
  | .fn _ _ _, v, h, _ => by simp only [Den] at h; obtain ⟨_, _, rfl, _⟩ := h; rfl
  | .nils, v, h, _ => by simp only [Den] at h; subst h; rfl
  | .sl _ _ _, v, h, _ => by
    simp only [Den] at h
    rcases h with ⟨_, rfl, _⟩ | ⟨_, _, _, _, rfl, _⟩ <;> rfl
  | .own _, v, h, _ => by simp only [Den] at h; exact h.2
  | .relt _ _ _ _, v, h, _ => by simp only [Den] at h; obtain ⟨_, _, rfl⟩ := h; rfl
  | .osub _ _ _ _, v, h, _ => by simp only [Den] at h; obtain ⟨_, _, _, _, _, rfl⟩ := h; rfl
  | .elt _, v, h, _ => by simp only [Den] at h; obtain ⟨_, _, _, _, rfl, _⟩ := h; rfl
  | .raw _, v, h, _ => by simp only [Den] at h; exact h.1 ▸ h.2
  | .any, v, h, _ => by simpa only [Den] using h
theorem cells_of_one {v : Value} (h : v.oneCell' = true) : v.cells = #[v] := by
  cases v <;> first | rfl | simp [Value.oneCell'] at h

def cellsOf : SV → Option (List SV)
  | .agg l => if l.all SV.single then some l else none
  | .tup _ => none
  | .junk => none
  | s => some [s]

theorem DenL.single {Γ : Gh} {ρ : Env} : ∀ {l : List SV} {vs : List Value}, DenL Γ ρ l vs → l.all SV.single = true → ∀ c ∈ vs, c.oneCell' = true
  | [], vs, h, _, c, hc => by simp only [DenL] at h; subst h; simp at hc
  | s :: l, vs, h, ha, c, hc => by
    simp only [DenL] at h
    obtain ⟨v, r, e, h1, h2⟩ := h
    subst e
    simp only [List.all_cons, Bool.and_eq_true] at ha
    rcases List.mem_cons.1 hc with rfl | hc
    · exact h1.single ha.1
    · exact DenL.single h2 ha.2 c hc

theorem cellsOf_den {Γ : Gh} {ρ : Env} {n : Nat} {s : SV} {v : Value} {l : List SV} (hc : cellsOf s = some l) (h : Den Γ ρ s v) (hb : s.bd n = true) :
    DenL Γ ρ l v.cells.toList ∧ (∀ c ∈ v.cells.toList, c.oneCell' = true) ∧ bdL n l = true := by
  have one : s.single = true → l = [s] → DenL Γ ρ l v.cells.toList ∧ (∀ c ∈ v.cells.toList, c.oneCell' = true) ∧ bdL n l = true := fun hs hl => by
    have h1 := h.single hs
    subst hl
    rw [cells_of_one h1]
    refine ⟨by simp only [DenL]; exact ⟨v, [], rfl, h, rfl⟩, by simpa using h1, by simp [bdL, hb]⟩
  cases s with
  | agg l' =>
    simp only [cellsOf] at hc
    split at hc
    · rename_i ha; cases hc
      simp only [Den] at h
      obtain ⟨vs, rfl, h⟩ := h
      exact ⟨h, h.single ha, hb⟩
    · cases hc
  | tup l' => simp [cellsOf] at hc
  | junk => simp [cellsOf] at hc
  | _ => exact one rfl (by simpa [cellsOf] using hc.symm)

def ofVal : Value → SV
  | .int k n => .int k n
  | .bool b => .bool b
  | .slice none 0 0 => .nils
  | .agg _ => .junk
  | .tuple _ => .junk
  | v => .raw v
theorem ofVal_den (Γ : Gh) (ρ : Env) (n : Nat) (v : Value) : Den Γ ρ (ofVal v) v ∧ (ofVal v).bd n = true := by
  unfold ofVal
  split <;> simp_all [Den, SV.bd]
  rename_i h1 h2 h3 h4 h5
  cases v <;> first | rfl | exact absurd rfl (h1 _ _) | exact absurd rfl (h2 _) | exact (h4 _ rfl).elim | exact (h5 _ rfl).elim

def evo (fr : Fr) : Operand → SV
  | .tmp t => match fnd fr t with
    | some s => s
    | none => .junk
  | .const v => ofVal v
  | .func f => .fn f [] []
  | .global g => .raw (.pointer (some ⟨g, 0, none⟩))
theorem evo_den {Γ : Gh} {ρ : Env} {nx N : Nat} {fr : Fr} {a : Act} (h : FrDen Γ ρ nx N fr a) (x : Operand) : Den Γ ρ (evo fr x) (a.eval x) ∧ (evo fr x).bd nx = true := by
  cases x with
  | tmp t =>
    simp only [evo]
    cases hf : fnd fr t with
    | none => simp [Den, SV.bd]
    | some s => simpa [Act.eval] using h.slot t s hf
  | const v => exact ofVal_den Γ ρ nx v
  | func f => exact ⟨by simp only [evo, Den, Act.eval]; exact ⟨#[], #[], rfl, by simp [DenL], by simp [DenL]⟩, rfl⟩
  | global g => exact ⟨by simp only [evo, Den, Act.eval]; exact ⟨trivial, rfl⟩, rfl⟩

def OpOk (P : Program) (N : Nat) (fr : Fr) (mem : Mem) (nx : Nat) (o : Oper) (sv : SV) (mem' : Mem) (nx' : Nat) : Prop :=
  ∀ Γ ρ w a, Inv Γ ρ nx mem w → FrDen Γ ρ nx N fr a → ∃ v r Γ' ρ' w', (execOp a.eval o).run P w = .ok r w' ∧ (r = .value v ∨ r = .skip ∧ v = undef) ∧
    Den Γ' ρ' sv v ∧ sv.bd nx' = true ∧ Inv Γ' ρ' nx' mem' w' ∧ Env.same nx ρ ρ' ∧ nx ≤ nx' ∧ Stp ρ mem w ρ' mem' w' ∧ Γ.le Γ' ∧ ∀ b, Γ' b ≠ none → Γ b ≠ none ∨ Owned ρ mem b ∨ w.heap.size ≤ b

theorem OpOk.pure {P : Program} {N : Nat} {fr : Fr} {mem : Mem} {nx : Nat} {o : Oper} {sv : SV}
    (h : ∀ Γ ρ w a, Inv Γ ρ nx mem w → FrDen Γ ρ nx N fr a → ∃ v, (execOp a.eval o).run P w = .ok (.value v) w ∧ Den Γ ρ sv v ∧ sv.bd nx = true) : OpOk P N fr mem nx o sv mem nx := by
  intro Γ ρ w a hi hf
  obtain ⟨v, h1, h2, h3⟩ := h Γ ρ w a hi hf
  exact ⟨v, _, Γ, ρ, w, h1, .inl rfl, h2, h3, hi, Env.same_refl _ _, Nat.le_refl _, Stp.refl _ _ _, Gh.le_refl _, fun _ hb => .inl hb⟩

end Go.Proofs.Ytjchmajamlehmaa.X
