/- States; the runner over operations; rules for code. -/
import Derived.Test.YtjchmajamlehmaaXg1
import Derived.ScopeJumps
import Derived.OrdersIn
import Derived.TacticsIn
import Derived.RangeFuncCalls
import Derived.RangeFuncLeaves
import Derived.RangeFuncRecord
namespace Go.Proofs.Ytjchmajamlehmaa.X
open Go Go.RowKit

structure St where
  fr : Fr
  mem : Mem
  nx : Nat

theorem put_defers (a : Act) (d : Option Nat) (v : Value) : (a.put d v).defers = a.defers := by cases d <;> rfl
structure Ok (Γ : Gh) (ρ : Env) (N : Nat) (s : St) (w : World) (a : Act) : Prop where
  inv : Inv Γ ρ s.nx s.mem w
  marks : MkOk Γ.lo w a.defers
  frame : FrDen Γ ρ s.nx N s.fr a

structure Nxt (n0 : Nat) (Γ : Gh) (ρ : Env) (s : St) (w : World) (Γ' : Gh) (ρ' : Env) (s' : St) (w' : World) : Prop where
  stp : Stp ρ s.mem w ρ' s'.mem w'
  le : Γ.le Γ'
  same : Env.same n0 ρ ρ'
  nx : n0 ≤ s'.nx
  new : ∀ b, Γ' b ≠ none → Γ b ≠ none ∨ Owned ρ s.mem b ∨ w.heap.size ≤ b

theorem Env.same_trans {n : Nat} {a b c : Env} (h : Env.same n a b) (k : Env.same n b c) : Env.same n a c := fun r hr => ⟨(k r hr).1.trans (h r hr).1, (k r hr).2.trans (h r hr).2⟩
theorem Env.same_mono {n m : Nat} (h : n ≤ m) {a b : Env} (k : Env.same m a b) : Env.same n a b := fun r hr => k r (Nat.lt_of_lt_of_le hr h)

theorem Nxt.refl {n0 : Nat} (Γ : Gh) (ρ : Env) (s : St) (w : World) (h : n0 ≤ s.nx) : Nxt n0 Γ ρ s w Γ ρ s w := ⟨Stp.refl _ _ _, Gh.le_refl _, Env.same_refl _ _, h, fun _ hb => .inl hb⟩
theorem Nxt.trans {n0 : Nat} {Γ Γ₁ Γ₂ : Gh} {ρ ρ₁ ρ₂ : Env} {s s₁ s₂ : St} {w w₁ w₂ : World} (h : Nxt n0 Γ ρ s w Γ₁ ρ₁ s₁ w₁) (k : Nxt n0 Γ₁ ρ₁ s₁ w₁ Γ₂ ρ₂ s₂ w₂) : Nxt n0 Γ ρ s w Γ₂ ρ₂ s₂ w₂ where
  stp := h.stp.trans k.stp
  le := Gh.le_trans h.le k.le
  same := Env.same_trans h.same k.same
  nx := k.nx
  new b hb := by
    rcases k.new b hb with hb | hb | hb
    · exact h.new b hb
    · rcases h.stp.own b hb with hb | hb
      · exact .inr (.inl hb)
      · exact .inr (.inr hb)
    · exact .inr (.inr (Nat.le_trans h.stp.size hb))

def gd (ops : Array Oper) (fr : Fr) : Option (Nat × Bool) → Option Bool
  | none => some true
  | some (j, want) => match ops[j]? with
    | some o => match o.dst with
      | some d => match fnd fr d with
        | some (.bool true) => some want
        | some (.bool false) => some (!want)
        | some (.tup []) => some false
        | _ => none
      | none => none
    | none => none

theorem gd_sound {ops : Array Oper} {Γ : Gh} {ρ : Env} {nx N : Nat} {fr : Fr} {a : Act} (hf : FrDen Γ ρ nx N fr a) {o : Oper} {b : Bool} (h : gd ops fr o.guard = some b) : Region.wanted o (yielded ops a.tmps) = b := by
  unfold Region.wanted
  cases hg : o.guard with
  | none => rw [hg] at h; simp [gd] at h; simp [h]
  | some p =>
    obtain ⟨j, want⟩ := p
    rw [hg] at h
    simp only [gd] at h
    split at h
    · rename_i oj hj
      split at h
      · rename_i d hd
        split at h
        · rename_i hs
          have h1 := (hf.slot d _ hs).1
          simp only [Den] at h1
          have : a.tmps[d]? = some (.bool true) := by
            rw [Array.getD_eq_getD_getElem?] at h1
            cases hq : a.tmps[d]? with
            | none => simp [hq, undef] at h1
            | some v => simpa [hq] using h1
          simp only [Option.some.injEq] at h
          subst h
          simp only [yielded, hj, Option.bind_some, hd, this]
          cases want <;> rfl
        · rename_i hs
          have h1 := (hf.slot d _ hs).1
          simp only [Den] at h1
          have : a.tmps[d]? = some (.bool false) := by
            rw [Array.getD_eq_getD_getElem?] at h1
            cases hq : a.tmps[d]? with
            | none => simp [hq, undef] at h1
            | some v => simpa [hq] using h1
          simp only [Option.some.injEq] at h
          subst h
          simp only [yielded, hj, Option.bind_some, hd, this]
          cases want <;> rfl
        · rename_i hs
          have h1 := (hf.slot d _ hs).1
          simp only [Den, DenL] at h1
          obtain ⟨vs, h1, h2⟩ := h1
          simp only [Option.some.injEq] at h
          subst h
          rw [Array.getD_eq_getD_getElem?] at h1
          simp only [yielded, hj, Option.bind_some, hd]
          cases hq : a.tmps[d]? with
          | none => rfl
          | some v => simp [hq] at h1; subst h1; rfl
        · cases h
      · cases h
    · cases h

def putS (N : Nat) (fr : Fr) (d : Option Nat) (s : SV) : Option Fr :=
  match d with
  | some d => match Nat.blt d N with
    | true => some ((d, s) :: fr)
    | false => none
  | none => some fr

theorem putS_sound {N : Nat} {fr fr' : Fr} {d : Option Nat} {s : SV} (h : putS N fr d s = some fr') {Γ : Gh} {ρ : Env} {nx : Nat} {a : Act} (hf : FrDen Γ ρ nx N fr a) {v : Value} (hv : Den Γ ρ s v) (hb : s.bd nx = true) : FrDen Γ ρ nx N fr' (a.put d v) := by
  unfold putS at h
  split at h
  · rename_i d
    split at h
    · rename_i hd
      cases h
      exact hf.put d (by simpa using hd) s v hv hb
    · cases h
  · cases h; exact hf

def noc : Op → Bool
  | .move _ | .assign _ | .alloc _ | .box _ _ | .fieldAddr _ _ _ | .unOp _ _ _ | .build _ _ | .buildSlice _ _ _ | .makeFunc _ _ _ | .extract _ _ | .field _ _ _ => true
  | _ => false

theorem noc_true {T : Tab} {fr : Fr} {mem : Mem} {nx : Nat} {o : Op} {q sv : SV} {mem' : Mem} {nx' : Nat} {k : Prop} (h : xop1 T fr mem nx o q = some (sv, mem', nx', k)) (hn : noc o = true) : k := by
  unfold noc at hn
  split at hn
  · simp only [xop1, Option.some.injEq, Prod.mk.injEq] at h; rw [← h.2.2.2]; trivial
  · simp only [xop1, Option.some.injEq, Prod.mk.injEq] at h; rw [← h.2.2.2]; trivial
  · simp only [xop1, xalloc] at h
    split at h <;> first | (simp only [Option.some.injEq, Prod.mk.injEq] at h; rw [← h.2.2.2]; trivial) | cases h
  · simp only [xop1, xbox] at h
    split at h <;> first | (simp only [Option.some.injEq, Prod.mk.injEq] at h; rw [← h.2.2.2]; trivial) | cases h
  · simp only [xop1, xfieldAddr] at h
    repeat' split at h
    all_goals first | (simp only [Option.some.injEq, Prod.mk.injEq] at h; rw [← h.2.2.2]; trivial) | cases h
  · rename_i u t x
    cases u <;> simp only [xop1, xnot] at h <;> first | cases h | skip
    split at h <;> first | (simp only [Option.some.injEq, Prod.mk.injEq] at h; rw [← h.2.2.2]; trivial) | cases h
  · simp only [xop1, xbuild] at h
    repeat' split at h
    all_goals first | (simp only [Option.some.injEq, Prod.mk.injEq] at h; rw [← h.2.2.2]; trivial) | cases h
  · simp only [xop1, xbuildSlice] at h
    repeat' split at h
    all_goals first | (simp only [Option.some.injEq, Prod.mk.injEq] at h; rw [← h.2.2.2]; trivial) | cases h
  · rename_i f a c
    cases f <;> simp only [xop1, xmakeFunc] at h <;> first | (simp only [Option.some.injEq, Prod.mk.injEq] at h; rw [← h.2.2.2]; trivial) | cases h
  · simp only [xop1, xextract] at h
    repeat' split at h
    all_goals first | (simp only [Option.some.injEq, Prod.mk.injEq] at h; rw [← h.2.2.2]; trivial) | cases h
  · simp only [xop1, xfield] at h
    repeat' split at h
    all_goals first | (simp only [Option.some.injEq, Prod.mk.injEq] at h; rw [← h.2.2.2]; trivial) | cases h
  · cases hn

def xshare (mem : Mem) (nx : Nat) (r : R) : R := match r with
  | some (.own _, (_, .row z _ xs) :: _, _, k) => some (.sl false z xs, mem, nx, k)
  | _ => none
def xop2 (T : Tab) (fr : Fr) (mem : Mem) (nx : Nat) (o : Op) (q : SV) : R :=
  match o, q with
  | .call ⟨.builtin .append, ⟨[x, y]⟩, ⟨[t, t2]⟩⟩, .bool true => xappsh T fr mem nx t t2 x y
  | .call ⟨.builtin .append, ⟨[x, y]⟩, ⟨[t, t2]⟩⟩, _ => xappend T fr mem nx t t2 x y
  | .buildSlice t len parts, .bool true => xshare mem nx (xbuildSlice T fr mem nx t len parts)
  | .makeSlice t l c, .bool true => xshare mem nx (xmakeSlice T fr mem nx t l c)
  | .buildSlice t len parts, .bool false => xcells T fr mem nx t len parts
  | .indexAddr t x i, q => match evo fr x with
    | .osub _ _ _ _ => xidxc T fr mem nx t x i
    | _ => xop1 T fr mem nx (.indexAddr t x i) q
  | .call ⟨.builtin .len, ⟨[x]⟩, ⟨[t]⟩⟩, q => match evo fr x with
    | .osub _ _ _ _ => xlenc T fr mem nx t x q
    | _ => xop1 T fr mem nx (.call ⟨.builtin .len, ⟨[x]⟩, ⟨[t]⟩⟩) q
  | .call ⟨.builtin .clear, ⟨[x]⟩, ⟨[t]⟩⟩, _ => xclear T fr mem nx t x
  | .call ⟨.builtin .copy, ⟨[x, y]⟩, ⟨[t1, _]⟩⟩, q => xcopy T fr mem nx t1 x y q
  | .slice t x lo none none, q => match evo fr x with
    | .own _ => xosub T fr mem nx t x lo
    | _ => xop1 T fr mem nx (.slice t x lo none none) q
  | .slice t x none (some h) none, q => match evo fr x with
    | .own _ => xpre T fr mem nx t x h
    | _ => xop1 T fr mem nx (.slice t x none (some h) none) q
  | .binOp .eql t x y yt, q => match evo fr y with
    | .nils => xnilcmp T fr mem nx false t x y
    | _ => xop1 T fr mem nx (.binOp .eql t x y yt) q
  | .binOp .neq t x y yt, q => match evo fr y with
    | .nils => xnilcmp T fr mem nx true t x y
    | _ => xop1 T fr mem nx (.binOp .neq t x y yt) q
  | .makeMap t res, q => xmakeMap T mem nx t res q
  | .lookup t x i ok, q => xlookup T fr mem nx t x i ok q
  | .mapUpdate t m key v, _ => xmapUpdate T fr mem nx t m key v
  | .insert t m key v, _ => xmapUpdate T fr mem nx t m key v
  | .nilCheck x, _ => xnil fr mem nx x
  | o, q => xop1 T fr mem nx o q

theorem buildSlice_form {T : Tab} {fr : Fr} {mem : Mem} {nx t len : Nat} {parts : Array (Nat × Operand)} {sv : SV} {mem' : Mem} {nx' : Nat} {k : Prop} (h : xbuildSlice T fr mem nx t len parts = some (sv, mem', nx', k)) : ∃ z E xs, sv = .own nx ∧ mem' = (nx, .row z E xs) :: mem ∧ nx' = nx + 1 ∧ k = True := by
  unfold xbuildSlice at h
  repeat' split at h
  all_goals first | (simp only [Option.some.injEq, Prod.mk.injEq] at h; obtain ⟨rfl, rfl, rfl, rfl⟩ := h; exact ⟨_, _, _, rfl, rfl, rfl, rfl⟩) | cases h
theorem makeSlice_form {T : Tab} {fr : Fr} {mem : Mem} {nx t : Nat} {l c : Operand} {sv : SV} {mem' : Mem} {nx' : Nat} {k : Prop} (h : xmakeSlice T fr mem nx t l c = some (sv, mem', nx', k)) : ∃ z E xs, sv = .own nx ∧ mem' = (nx, .row z E xs) :: mem ∧ nx' = nx + 1 := by
  unfold xmakeSlice at h
  repeat' split at h
  all_goals first | (simp only [Option.some.injEq, Prod.mk.injEq] at h; obtain ⟨rfl, rfl, rfl, rfl⟩ := h; exact ⟨_, _, _, rfl, rfl, rfl⟩) | cases h

theorem xop2_sound {P : Program} {T : Tab} (hT : TabOk P T) {N : Nat} {fr : Fr} {mem : Mem} {nx : Nat} {o : Oper} {q sv : SV} {mem' : Mem} {nx' : Nat} {k : Prop} (h : xop2 T fr mem nx o.op q = some (sv, mem', nx', k)) (hk : k) : OpOk P N fr mem nx o sv mem' nx' := by
  unfold xop2 at h
  split at h
  · rename_i ho; exact ok_appsh hT ho h hk
  · rename_i ho _; exact ok_append hT ho h hk
  · rename_i t len parts ho
    unfold xshare at h
    split at h
    · rename_i hb
      obtain ⟨_, _, _, e1, e2, e3, _⟩ := buildSlice_form hb
      cases e1; cases e2; subst e3
      simp only [Option.some.injEq, Prod.mk.injEq] at h
      obtain ⟨rfl, rfl, rfl, rfl⟩ := h
      exact (ok_buildSlice hT ho hb).share
    · cases h
  · rename_i t l c ho
    unfold xshare at h
    split at h
    · rename_i hb
      obtain ⟨_, _, _, e1, e2, e3⟩ := makeSlice_form hb
      cases e1; cases e2; subst e3
      simp only [Option.some.injEq, Prod.mk.injEq] at h
      obtain ⟨rfl, rfl, rfl, rfl⟩ := h
      exact (ok_makeSlice hT ho hb hk).share
    · cases h
  · rename_i ho; exact ok_cells hT ho h
  · rename_i ho
    split at h
    · exact ok_idxc hT ho h hk
    · rw [← ho] at h; exact xop1_sound hT h hk
  · rename_i ho
    split at h
    · exact ok_lenc hT ho h hk
    · rw [← ho] at h; exact xop1_sound hT h hk
  · rename_i ho; exact ok_clear hT ho h hk
  · rename_i ho; exact ok_copy hT ho h hk
  · rename_i ho
    split at h
    · exact ok_osub hT ho h hk
    · rw [← ho] at h; exact xop1_sound hT h hk
  · rename_i ho
    split at h
    · exact ok_pre hT ho h hk
    · rw [← ho] at h; exact xop1_sound hT h hk
  · rename_i ho
    split at h
    · exact ok_nilcmp (ne := false) hT ho h hk
    · rw [← ho] at h; exact xop1_sound hT h hk
  · rename_i ho
    split at h
    · exact ok_nilcmp (ne := true) hT ho h hk
    · rw [← ho] at h; exact xop1_sound hT h hk
  · rename_i ho; exact ok_makeMap hT ho h
  · rename_i ho; exact ok_lookup hT ho h hk
  · rename_i ho; exact ok_mapUpdate hT (.inl ho) h
  · rename_i ho; exact ok_mapUpdate hT (.inr ho) h
  · rename_i ho; exact ok_nil ho h
  · exact xop1_sound hT h hk

theorem noc_true2 {T : Tab} {fr : Fr} {mem : Mem} {nx : Nat} {o : Op} {q sv : SV} {mem' : Mem} {nx' : Nat} {k : Prop} (h : xop2 T fr mem nx o q = some (sv, mem', nx', k)) (hn : noc o = true) : k := by
  unfold xop2 at h
  split at h
  · cases hn
  · cases hn
  · unfold xshare at h
    split at h
    · rename_i hb
      obtain ⟨_, _, _, _, _, _, e4⟩ := buildSlice_form hb
      simp only [Option.some.injEq, Prod.mk.injEq] at h
      obtain ⟨_, _, _, rfl⟩ := h
      rw [e4]; trivial
    · cases h
  · cases hn
  · unfold xcells at h
    repeat' split at h
    all_goals first | (simp only [Option.some.injEq, Prod.mk.injEq] at h; rw [← h.2.2.2]; trivial) | cases h
  · cases hn
  · cases hn
  · cases hn
  · cases hn
  · cases hn
  · cases hn
  · cases hn
  · cases hn
  · cases hn
  · cases hn
  · cases hn
  · cases hn
  · cases hn
  · exact noc_true h hn

def xrun (T : Tab) (N : Nat) (ops : Array Oper) (orc : List (Nat × SV)) : Nat → Nat → List Oper → St → Option (List Oper × St × List Prop)
  | 0, _, l, s => some (l, s, [])
  | _ + 1, _, [], _ => none
  | n + 1, i, o :: l, s => match gd ops s.fr o.guard with
    | some true => match xop2 T s.fr s.mem s.nx o.op (match fnd orc i with | some q => q | none => .junk) with
      | some (sv, mem', nx', k) => match putS N s.fr o.dst sv with
        | some fr' => match xrun T N ops orc n (i + 1) l ⟨fr', mem', nx'⟩ with
          | some (l', s', ks) => match noc o.op with
            | true => some (l', s', ks)
            | false => some (l', s', k :: ks)
          | none => none
        | none => none
      | none => none
    | some false => match putS N s.fr o.dst (.tup []) with
      | some fr' => xrun T N ops orc n (i + 1) l ⟨fr', s.mem, s.nx⟩
      | none => none
    | none => none

def All : List Prop → Prop
  | [] => True
  | k :: ks => k ∧ All ks

section
variable {rd : Option Nat} {P : Program} {T : Tab} {N n0 : Nat} {ops : Array Oper}

def fnc (rd : Option Nat) : Fence := { Fence.wide with round := rd }
theorem calls_fnc {rd : Option Nat} {n f : Nat} {args : Array Value} {w : World} {Q : Ending → World → Prop} (h : Calls P f args w Q) : CallsIn (fnc rd) n P f args w Q := (callsIn_wide (n := n)).2 h
theorem sem_round {rd : Option Nat} {ρ : Operand → Value} {o : Oper} {w w' : World} {r : Next} {v : Value} (h : (execOp ρ o).run P w = .ok r w') (hr : r = .value v ∨ r = .skip ∧ v = undef) : (o.semAt rd ρ).run P w = .ok r w' := by
  rw [Oper.semAt_eq]
  · exact h
  · intro c ho
    simp only [execOp, ho, Sem.run_bind] at h
    cases hq : (resolve ρ c o.type).run P w with
    | ok d w1 =>
      rw [hq] at h
      simp only [Result.andThen, Sem.run_pure] at h
      cases h
      rcases hr with h | ⟨h, _⟩ <;> cases h
    | halt e w1 =>
      rw [hq] at h
      simp [Result.andThen] at h

def XO (rd : Option Nat) (P : Program) (N n0 : Nat) (ops : Array Oper) (l : List Oper) (K : St → Prop) (s : St) : Prop :=
  ∀ Γ ρ w a Q, n0 ≤ s.nx → Ok Γ ρ N s w a → (∀ Γ' ρ' s' w' a', Ok Γ' ρ' N s' w' a' → Nxt n0 Γ ρ s w Γ' ρ' s' w' → K s' → Q .normal a' w') → wpListIn (fnc rd) 0 P ops Q l a w

theorem xo_nil {K : St → Prop} {s : St} (h : K s) : XO rd P N n0 ops [] K s := fun Γ ρ w a _ hn hok hQ => hQ Γ ρ s w a hok (Nxt.refl Γ ρ s w hn) h

theorem undef_den {Γ : Gh} {ρ : Env} {n : Nat} : Den Γ ρ (.tup []) undef ∧ (SV.tup []).bd n = true := ⟨by simp only [Den]; exact ⟨#[], rfl, by simp [DenL]⟩, rfl⟩

theorem xo_op {o : Oper} {l : List Oper} {K : St → Prop} {s : St} {sv : SV} {mem' : Mem} {nx' : Nat} {fr' : Fr} (hg : gd ops s.fr o.guard = some true) (hop : OpOk P N s.fr s.mem s.nx o sv mem' nx') (hp : putS N s.fr o.dst sv = some fr')
    (h : XO rd P N n0 ops l K ⟨fr', mem', nx'⟩) : XO rd P N n0 ops (o :: l) K s := by
  intro Γ ρ w a Q hn hok hQ
  refine wpListIn_step fun K' hK' => ?_
  rw [gd_sound hok.frame hg, if_pos rfl]
  obtain ⟨v, r, Γ', ρ', w', h1, h2, h3, h4, h5, h6, h7, h8, h9, h10⟩ := hop Γ ρ w a hok.inv hok.frame
  have hok' : Ok Γ' ρ' N ⟨fr', mem', nx'⟩ w' (a.put o.dst v) := ⟨h5, by rw [put_defers]; exact hok.marks.step hok.inv h8 h9, putS_sound hp (hok.frame.grow h9 h6 h7) h3 h4⟩
  have hnxt : Nxt n0 Γ ρ s w Γ' ρ' ⟨fr', mem', nx'⟩ w' := ⟨h8, h9, Env.same_mono hn h6, Nat.le_trans hn h7, h10⟩
  have hgo : K' (a.put o.dst v) w' := hK' _ _ (h Γ' ρ' w' _ Q (Nat.le_trans hn h7) hok' (fun Γ₂ ρ₂ s₂ w₂ a₂ g1 g2 g3 => hQ Γ₂ ρ₂ s₂ w₂ a₂ g1 (hnxt.trans g2) g3))
  refine ⟨fun _ _ => trivial, ?_⟩
  rw [sem_round h1 h2]
  rcases h2 with rfl | ⟨rfl, rfl⟩
  · exact hgo
  · exact hgo

theorem xo_skip {o : Oper} {l : List Oper} {K : St → Prop} {s : St} {fr' : Fr} (hg : gd ops s.fr o.guard = some false) (hp : putS N s.fr o.dst (.tup []) = some fr')
    (h : XO rd P N n0 ops l K ⟨fr', s.mem, s.nx⟩) : XO rd P N n0 ops (o :: l) K s := by
  intro Γ ρ w a Q hn hok hQ
  refine wpListIn_step fun K' hK' => ?_
  rw [gd_sound hok.frame hg, if_neg Bool.false_ne_true]
  refine ⟨fun _ _ => trivial, ?_⟩
  have hu := undef_den (Γ := Γ) (ρ := ρ) (n := s.nx)
  exact hK' _ _ (h Γ ρ w _ Q hn ⟨hok.inv, by rw [put_defers]; exact hok.marks, putS_sound hp hok.frame hu.1 hu.2⟩ (fun Γ₂ ρ₂ s₂ w₂ a₂ g1 g2 g3 => hQ Γ₂ ρ₂ s₂ w₂ a₂ g1 ⟨g2.stp, g2.le, g2.same, g2.nx, g2.new⟩ g3))

theorem xo_run (hT : TabOk P T) (orc : List (Nat × SV)) : ∀ (n i : Nat) (l : List Oper) (s : St) (l' : List Oper) (s' : St) (ks : List Prop) {K : St → Prop}, xrun T N ops orc n i l s = some (l', s', ks) → All ks → XO rd P N n0 ops l' K s' → XO rd P N n0 ops l K s
  | 0, _, l, s, l', s', ks, K, h, _, hx => by
    simp only [xrun, Option.some.injEq, Prod.mk.injEq] at h
    obtain ⟨rfl, rfl, rfl⟩ := h
    exact hx
  | n + 1, _, [], s, l', s', ks, K, h, _, _ => by simp [xrun] at h
  | n + 1, i, o :: l, s, l', s', ks, K, h, hk, hx => by
    simp only [xrun] at h
    split at h
    · rename_i hg
      split at h
      · rename_i sv mem' nx' k hop
        split at h
        · rename_i fr' hp
          split at h
          · rename_i l1 s1 ks1 hr
            have hkk : k ∧ All ks1 ∧ l1 = l' ∧ s1 = s' := by
              split at h
              · rename_i hc
                simp only [Option.some.injEq, Prod.mk.injEq] at h
                obtain ⟨rfl, rfl, rfl⟩ := h
                exact ⟨noc_true2 hop hc, hk, rfl, rfl⟩
              · simp only [Option.some.injEq, Prod.mk.injEq] at h
                obtain ⟨rfl, rfl, rfl⟩ := h
                exact ⟨hk.1, hk.2, rfl, rfl⟩
            obtain ⟨hk1, hk2, rfl, rfl⟩ := hkk
            exact xo_op hg (xop2_sound hT hop hk1) hp (xo_run hT orc n (i + 1) l _ _ _ ks1 hr hk2 hx)
          · cases h
        · cases h
      · cases h
    · rename_i hg
      split at h
      · rename_i fr' hp
        exact xo_skip hg hp (xo_run hT orc n (i + 1) l _ _ _ ks h hk hx)
      · cases h
    · cases h

theorem xo_split {l : List Oper} {K : St → Prop} {s : St} (d : Nat) {x : Bool} (hd : fnd s.fr d = some (.bool x)) (ht : x = true → XO rd P N n0 ops l K ⟨(d, .bool true) :: s.fr, s.mem, s.nx⟩) (hf : x = false → XO rd P N n0 ops l K ⟨(d, .bool false) :: s.fr, s.mem, s.nx⟩) : XO rd P N n0 ops l K s := by
  have key : XO rd P N n0 ops l K ⟨(d, .bool x) :: s.fr, s.mem, s.nx⟩ := by
    cases x
    · exact hf rfl
    · exact ht rfl
  intro Γ ρ w a Q hn hok hQ
  refine key Γ ρ w a Q hn ⟨hok.inv, hok.marks, hok.frame.size, fun d' s' h => ?_⟩ (fun Γ₂ ρ₂ s₂ w₂ a₂ g1 g2 g3 => hQ Γ₂ ρ₂ s₂ w₂ a₂ g1 ⟨g2.stp, g2.le, g2.same, g2.nx, g2.new⟩ g3)
  rw [fnd_cons] at h
  split at h
  · rename_i e; subst e; cases h; exact hok.frame.slot d _ hd
  · exact hok.frame.slot d' s' h

inductive XE where
  | normal
  | exit (id : Nat)
  | goto (l : Nat)
  | ret
def XE.toExit : XE → Exit
  | .normal => .normal
  | .exit i => .exit i
  | .goto l => .goto l
  | .ret => .ret

def XPost (N n0 : Nat) (K : XE → St → Prop) (Γ : Gh) (ρ : Env) (s : St) (w : World) : Exit → Act → World → Prop := fun e a' w' =>
  ∃ xe Γ' ρ' s', xe.toExit = e ∧ Ok Γ' ρ' N s' w' a' ∧ Nxt n0 Γ ρ s w Γ' ρ' s' w' ∧ K xe s'

def XW (rd : Option Nat) (P : Program) (N n0 : Nat) (c : Code) (K : XE → St → Prop) (s : St) : Prop :=
  ∀ Γ ρ w a, n0 ≤ s.nx → Ok Γ ρ N s w a → c.wpIn (fnc rd) 0 P (XPost N n0 K Γ ρ s w) a w

variable {K : XE → St → Prop} {s : St}

theorem xpost_here {e : XE} {Γ : Gh} {ρ : Env} {w : World} {a : Act} (hn : n0 ≤ s.nx) (hok : Ok Γ ρ N s w a) (h : K e s) : XPost N n0 K Γ ρ s w e.toExit a w :=
  ⟨e, Γ, ρ, s, rfl, hok, Nxt.refl Γ ρ s w hn, h⟩

theorem xw_skip (h : K .normal s) : XW rd P N n0 .skip K s := fun _ _ _ _ hn hok => wpIn_skip (xpost_here (e := .normal) hn hok h)
theorem xw_label {l : Nat} (h : K .normal s) : XW rd P N n0 (.label l) K s := fun _ _ _ _ hn hok => wpIn_label (xpost_here (e := .normal) hn hok h)
theorem xw_exit {i : Nat} (h : K (.exit i) s) : XW rd P N n0 (.exit i) K s := fun _ _ _ _ hn hok => wpIn_exit (xpost_here (e := .exit i) hn hok h)
theorem xw_goto {l : Nat} (h : K (.goto l) s) : XW rd P N n0 (.goto l) K s := fun _ _ _ _ hn hok => wpIn_goto (xpost_here (e := .goto l) hn hok h)
theorem xw_ret (h : K .ret s) : XW rd P N n0 .ret K s := fun _ _ _ _ hn hok => wpIn_ret (xpost_here (e := .ret) hn hok h)

theorem xw_mono {c : Code} {K' : XE → St → Prop} (h : XW rd P N n0 c K s) (hk : ∀ e s', K e s' → K' e s') : XW rd P N n0 c K' s := fun Γ ρ w a hn hok =>
  wpIn_mono (h Γ ρ w a hn hok) fun _ _ _ ⟨xe, Γ', ρ', s', h1, h2, h3, h4⟩ => ⟨xe, Γ', ρ', s', h1, h2, h3, hk _ _ h4⟩

def andThen (rd : Option Nat) (P : Program) (N n0 : Nat) (b : Code) (K : XE → St → Prop) : XE → St → Prop
  | .normal, s => XW rd P N n0 b K s
  | e, s => K e s

theorem XPost.weaken {Γ Γ' : Gh} {ρ ρ' : Env} {s' : St} {w w' : World} (hn : Nxt n0 Γ ρ s w Γ' ρ' s' w') {e : Exit} {a : Act} {w₂ : World} (h : XPost N n0 K Γ' ρ' s' w' e a w₂) : XPost N n0 K Γ ρ s w e a w₂ :=
  let ⟨xe, Γ₂, ρ₂, s₂, h1, h2, h3, h4⟩ := h
  ⟨xe, Γ₂, ρ₂, s₂, h1, h2, hn.trans h3, h4⟩

theorem xw_seq {x y : Code} (h : XW rd P N n0 x (andThen rd P N n0 y K) s) : XW rd P N n0 (.seq x y) K s := fun Γ ρ w a hn hok =>
  wpIn_seq (wpIn_mono (h Γ ρ w a hn hok) fun _ _ _ ⟨xe, Γ', ρ', s', h1, h2, h3, h4⟩ => by
    subst h1
    cases xe with
    | normal => exact wpIn_mono (h4 Γ' ρ' _ _ h3.nx h2) (fun _ _ _ q => q.weaken h3)
    | exit i => exact ⟨.exit i, Γ', ρ', s', rfl, h2, h3, h4⟩
    | goto l => exact ⟨.goto l, Γ', ρ', s', rfl, h2, h3, h4⟩
    | ret => exact ⟨.ret, Γ', ρ', s', rfl, h2, h3, h4⟩)

theorem xw_cond {c : Operand} {x y : Code} {b : Bool} (hc : evo s.fr c = .bool b) (ht : b = true → XW rd P N n0 x K s) (hf : b = false → XW rd P N n0 y K s) : XW rd P N n0 (.cond c x y) K s := fun Γ ρ w a hn hok => by
  have h1 := (evo_den hok.frame c).1
  rw [hc] at h1; simp only [Den] at h1
  exact wpIn_cond_split h1 (fun e => ht e Γ ρ w a hn hok) (fun e => hf e Γ ρ w a hn hok)
theorem xw_true {c : Operand} {x y : Code} (hc : evo s.fr c = .bool true) (ht : XW rd P N n0 x K s) : XW rd P N n0 (.cond c x y) K s := xw_cond hc (fun _ => ht) (fun e => by cases e)
theorem xw_false {c : Operand} {x y : Code} (hc : evo s.fr c = .bool false) (hf : XW rd P N n0 y K s) : XW rd P N n0 (.cond c x y) K s := xw_cond hc (fun e => by cases e) (fun _ => hf)

def inBlock (id : Nat) (K : XE → St → Prop) : XE → St → Prop
  | .exit i, s => if i = id then K .normal s else K (.exit i) s
  | e, s => K e s

theorem xw_block {id : Nat} {c : Code} (h : XW rd P N n0 c (inBlock id K) s) : XW rd P N n0 (.block id c) K s := fun Γ ρ w a hn hok =>
  wpIn_block (wpIn_mono (h Γ ρ w a hn hok) fun _ _ _ ⟨xe, Γ', ρ', s', h1, h2, h3, h4⟩ => by
    subst h1
    cases xe with
    | normal => exact ⟨.normal, Γ', ρ', s', rfl, h2, h3, h4⟩
    | exit i =>
      simp only [inBlock] at h4
      simp only [XE.toExit, Exit.inBlock]
      split
      · rename_i e; rw [if_pos e] at h4; exact ⟨.normal, Γ', ρ', s', rfl, h2, h3, h4⟩
      · rename_i e; rw [if_neg e] at h4; exact ⟨.exit i, Γ', ρ', s', rfl, h2, h3, h4⟩
    | goto l => exact ⟨.goto l, Γ', ρ', s', rfl, h2, h3, h4⟩
    | ret => exact ⟨.ret, Γ', ρ', s', rfl, h2, h3, h4⟩)

theorem xw_region {id : Nat} {ops : Array Oper} (h : XO rd P N n0 ops ops.toList (K .normal) s) : XW rd P N n0 (.region id ops false) K s := fun Γ ρ w a hn hok =>
  wpIn_region_list (h Γ ρ w a _ hn hok fun Γ' ρ' s' _ _ h1 h2 h3 => ⟨.normal, Γ', ρ', s', rfl, h1, h2, h3⟩)

end
end Go.Proofs.Ytjchmajamlehmaa.X
