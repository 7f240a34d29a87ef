/- Maps of one's own, keyed by numbers: made, looked up, stored into. -/
import Derived.Test.YtjchmajamlehmaaXy1
import Derived.MapKept
namespace Go.Proofs.Ytjchmajamlehmaa.X
open Go Go.RowKit

def lkE : List (Int × SV) → Int → Option SV
  | [], _ => none
  | (m, s) :: es, n => if m = n then some s else lkE es n
def stE : List (Int × SV) → Int → SV → List (Int × SV)
  | [], n, v => [(n, v)]
  | (m, s) :: es, n, v => if m = n then (m, v) :: es else (m, s) :: stE es n v
def lkD (es : List (Int × SV)) (n : Int) (z : SV) : SV := match lkE es n with
  | some s => s
  | none => z
def lkT (es : List (Int × SV)) (n : Int) (z : SV) : SV := match lkE es n with
  | some s => .tup [s, .bool true]
  | none => .tup [z, .bool false]
def ikN : IntKind → Nat
  | .i8 => 0 | .i16 => 1 | .i32 => 2 | .i64 => 3 | .u8 => 4 | .u16 => 5 | .u32 => 6 | .u64 => 7
theorem ikN_inj {a b : IntKind} (h : Nat.beq (ikN a) (ikN b) = true) : a = b := by
  cases a <;> cases b <;> first | rfl | (exfalso; revert h; decide)

theorem lkE_bd {n : Nat} : ∀ {es : List (Int × SV)} {m : Int} {s : SV}, bdE n es = true → lkE es m = some s → s.bd n = true
  | [], _, _, _, h => by simp [lkE] at h
  | (q, t) :: es, m, s, hb, h => by
    simp only [bdE, Bool.and_eq_true] at hb
    simp only [lkE] at h
    split at h
    · cases h; exact hb.1
    · exact lkE_bd hb.2 h
theorem stE_bd {n : Nat} {s : SV} (hs : s.bd n = true) : ∀ {es : List (Int × SV)} {m : Int}, bdE n es = true → bdE n (stE es m s) = true
  | [], _, _ => by simp [stE, bdE, hs]
  | (q, t) :: es, m, hb => by
    simp only [bdE, Bool.and_eq_true] at hb
    simp only [stE]
    split
    · simp [bdE, hs, hb.2]
    · simp [bdE, hb.1, stE_bd hs hb.2]

theorem ents_find {Γ : Gh} {ρ : Env} {k : IntKind} {n : Int} : ∀ (es : List (Int × SV)) (l : List MapEntry) (i : Nat), EntsOk Γ ρ k es l →
    (Instr.findNow (.int k) (.int k n) l i = some none ∧ lkE es n = none ∧ ∀ (v : Value) (s : SV) (born : Nat), Den Γ ρ s v → EntsOk Γ ρ k (stE es n s) (l ++ [⟨.int k n, v, born⟩])) ∨
    ∃ j e s, Instr.findNow (.int k) (.int k n) l i = some (some (i + j, e.val)) ∧ l[j]? = some e ∧ e.key = .int k n ∧ lkE es n = some s ∧ Den Γ ρ s e.val ∧ ∀ (v : Value) (s' : SV), Den Γ ρ s' v → EntsOk Γ ρ k (stE es n s') (l.modify j (fun e => { e with key := .int k n, val := v }))
  | [], l, i, h => by
    subst h
    exact .inl ⟨rfl, rfl, fun v s born hs => ⟨_, _, rfl, rfl, hs, rfl⟩⟩
  | (m, t) :: es, l, i, h => by
    obtain ⟨e, r, rfl, h1, h2, h3⟩ := h
    by_cases hm : m = n
    · subst hm
      refine .inr ⟨0, e, t, ?_, rfl, h1, by simp [lkE], h2, fun v s' hs => ?_⟩
      · simp [Instr.findNow, Instr.sameNow, h1]
      · simp only [stE, if_true, List.modify_zero_cons]
        exact ⟨_, _, rfl, rfl, hs, h3⟩
    · have hs : Instr.sameNow (.int k) (.int k n) e.key = some false := by
        rw [h1]; simp [Instr.sameNow, Ne.symm hm]
      rcases ents_find (n := n) es r (i + 1) h3 with ⟨g1, g2, g3⟩ | ⟨j, e', s, g1, g2, g3, g4, g5, g6⟩
      · refine .inl ⟨by simp [Instr.findNow, hs, g1], by simp [lkE, hm, g2], fun v s born hv => ?_⟩
        simp only [stE, if_neg hm]
        exact ⟨e, _, rfl, h1, h2, g3 v s born hv⟩
      · refine .inr ⟨j + 1, e', s, ?_, by simpa using g2, g3, by simp [lkE, hm, g4], g5, fun v s' hv => ?_⟩
        · simp only [Instr.findNow, hs, g1]; congr 3; omega
        · simp only [stE, if_neg hm, List.modify_succ_cons]
          exact ⟨e, _, rfl, h1, h2, g6 v s' hv⟩

section
variable {P : Program} {T : Tab} {N : Nat} {fr : Fr} {mem : Mem} {nx : Nat} {o : Oper}

def mapTy (T : Tab) (t : Nat) : Option (Nat × Nat × IntKind × SV) := match fnd T t with
  | some ti => match ti.d with
    | .map kt et => match fnd T kt, fnd T et with
      | some ki, some ei => match ki.d, ei.zero, ei.agg with
        | .int k, [z], false => some (kt, et, k, z)
        | _, _, _ => none
      | _, _ => none
    | _ => none
  | none => none
theorem mapTy_ok (hT : TabOk P T) {t kt et : Nat} {k : IntKind} {z : SV} (h : mapTy T t = some (kt, et, k, z)) :
    P.underlying t = some (.map kt et) ∧ P.underlying kt = some (.int k) ∧ ∃ zv : Value, (∀ w, (zeroValue et).run P w = .ok zv w) ∧ ∀ (Γ : Gh) (ρ : Env) (n : Nat), Den Γ ρ z zv ∧ z.bd n = true := by
  unfold mapTy at h
  split at h
  · rename_i ti hti
    split at h
    · rename_i a b hd
      have h1 := (hT t ti hti).desc
      rw [hd] at h1
      split at h
      · rename_i ki ei hki hei
        split at h
        · rename_i k' z' hk hz hag
          simp only [Option.some.injEq, Prod.mk.injEq] at h
          obtain ⟨rfl, rfl, rfl, rfl⟩ := h
          have h2 := (hT _ ki hki).desc
          rw [hk] at h2
          obtain ⟨zv, g1, g2⟩ := (hT _ ei hei).zeroValue
          have h3 := (hT _ ei hei).one hag
          have h4 : zv.oneCell' = true := by
            obtain ⟨i, q1, _, _, q2⟩ := (hT _ ei hei).typeInfo
            have := g1 default
            rw [q2] at h3
            cases hq : i.zero with
            | none => simp [hq] at h3
            | some z0 =>
              simp [hq] at h3
              simp [zeroValue, q1, hq] at this
              rw [← this]; exact h3
          refine ⟨h1, h2, zv, g1, fun Γ ρ n => ?_⟩
          obtain ⟨g3, g4, g5, _⟩ := consts_den (Γ := Γ) (ρ := ρ) (n := n) g2
          rw [hz] at g3 g5
          rw [cells_of_one h4] at g3
          simp only [DenL] at g3
          obtain ⟨v, r, e1, g6, e2⟩ := g3
          cases e1
          exact ⟨g6, by simpa [bdL] using g5⟩
        · cases h
      · cases h
    · cases h
  · cases h

def isT : SV → Bool
  | .bool b => b
  | _ => false
def xmakeMap (T : Tab) (mem : Mem) (nx : Nat) (t : Nat) (res : Option Operand) (q : SV) : R := match res, mapTy T t with
  | none, some (_, _, k, _) => some (.own nx, (nx, .mp (isT q) k []) :: mem, nx + 1, True)
  | _, _ => none
def xlookup (T : Tab) (fr : Fr) (mem : Mem) (nx : Nat) (t : Nat) (x i : Operand) (ok : Bool) (q : SV) : R := match mapTy T t, evo fr x, evo fr i with
  | some (_, _, k, z), .own r, .int k' n => match fnd mem r with
    | some (.mp _ k2 es) => match Nat.beq (ikN k) (ikN k'), Nat.beq (ikN k) (ikN k2) with
      | true, true => some (q, mem, nx, (match ok with | true => lkT es n z | false => lkD es n z) = q)
      | _, _ => none
    | _ => none
  | _, _, _ => none
def xmapUpdate (T : Tab) (fr : Fr) (mem : Mem) (nx : Nat) (t : Nat) (m key v : Operand) : R := match mapTy T t, evo fr m, evo fr key with
  | some (_, _, k, _), .own r, .int k' n => match fnd mem r with
    | some (.mp p k2 es) => match Nat.beq (ikN k) (ikN k'), Nat.beq (ikN k) (ikN k2), (evo fr v).single, (!p || (evo fr v).bd 0) with
      | true, true, true, true => some (.junk, upd mem r (.mp p k (stE es n (evo fr v))), nx, True)
      | _, _, _, _ => none
    | _ => none
  | _, _, _ => none

def xnil (fr : Fr) (mem : Mem) (nx : Nat) (x : Operand) : R := match evo fr x with
  | .loc r i => some (.loc r i, mem, nx, True)
  | _ => none
theorem ok_nil {x : Operand} (ho : o.op = .nilCheck x) {sv : SV} {mem' : Mem} {nx' : Nat} {k : Prop} (h : xnil fr mem nx x = some (sv, mem', nx', k)) : OpOk P N fr mem nx o sv mem' nx' := by
  unfold xnil at h
  split at h
  · rename_i r i hx
    simp only [Option.some.injEq, Prod.mk.injEq] at h
    obtain ⟨rfl, rfl, rfl, rfl⟩ := h
    refine OpOk.pure fun Γ ρ w a hi hff => ?_
    obtain ⟨h1, h1'⟩ := evo_den hff x
    rw [hx] at h1 h1'; simp only [Den] at h1
    obtain ⟨b, hb, hv⟩ := h1
    exact ⟨_, by simp only [execOp, ho, hv, Sem.run_pure]; rfl, by simp only [Den]; exact ⟨b, hb, rfl⟩, h1'⟩
  · cases h
theorem ok_makeMap (_ : TabOk P T) {t : Nat} {res : Option Operand} (ho : o.op = .makeMap t res) {sv : SV} {mem' : Mem} {nx' : Nat} {k : Prop} {q : SV} (h : xmakeMap T mem nx t res q = some (sv, mem', nx', k)) : OpOk P N fr mem nx o sv mem' nx' := by
  unfold xmakeMap at h
  split at h
  · rename_i kt et k z hm
    simp only [Option.some.injEq, Prod.mk.injEq] at h
    obtain ⟨rfl, rfl, rfl, rfl⟩ := h
    intro Γ ρ w a hi hf
    have hB : BlkOk Γ (ρ.add nx (some w.heap.size) (some (.map (some w.heap.size)))) (w.alloc (.map #[] 0)) nx (.mp (isT q) k []) := by
      refine ⟨w.heap.size, #[], 0, Env.add_blk _ _ _ _, Env.add_val _ _ _ _, heap_alloc_new _ _, rfl, ?_⟩
      cases hq : Γ w.heap.size with
      | none => rfl
      | some cs => exact absurd (hi.lt hq) (Nat.lt_irrefl _)
    refine ⟨.map (some w.heap.size), .value (.map (some w.heap.size)), Γ, _, w.alloc (.map #[] 0), ?_, .inl rfl, ?_, by simp [SV.bd], hi.alloc _ _ _ hB (by simp [Blk.bd, bdE]), Env.add_same _ _ _ _, Nat.le_succ _, Stp.alloc hi _ _ _, Gh.le_refl _, fun _ hb => .inl hb⟩
    · simp [execOp, ho, Instr.makeMap]
    · simp only [Den]; exact ⟨Env.add_val _ _ _ _, rfl⟩
  · cases h

theorem own_map {Γ : Gh} {ρ : Env} {w : World} (hi : Inv Γ ρ nx mem w) {r : Nat} {p : Bool} {k : IntKind} {es : List (Int × SV)} (hr : fnd mem r = some (.mp p k es)) {v : Value} (hv : Den Γ ρ (.own r) v) :
    ∃ b arr clock, v = .map (some b) ∧ ρ.blk r = some b ∧ w.heap[b]? = some (.map arr clock) ∧ EntsOk Γ (pe p ρ) k es arr.toList ∧ Γ b = none ∧ (p || bdE nx es) = true := by
  simp only [Den] at hv
  obtain ⟨⟨b, arr, clock, h1, h2, h3, h4, h5⟩, _, h6⟩ := hi.priv r _ hr
  rw [hv.1] at h2; cases h2
  exact ⟨b, arr, clock, rfl, h1, h3, h4, h5, h6⟩

theorem ok_lookup (hT : TabOk P T) {t : Nat} {x i : Operand} {ok : Bool} (ho : o.op = .lookup t x i ok) {q sv : SV} {mem' : Mem} {nx' : Nat} {k : Prop} (h : xlookup T fr mem nx t x i ok q = some (sv, mem', nx', k)) (hk : k) : OpOk P N fr mem nx o sv mem' nx' := by
  unfold xlookup at h
  split at h
  · rename_i kt et k1 z r k2 n hm hx hi'
    obtain ⟨h1, h2, zv, h3, h4⟩ := mapTy_ok (P := P) hT hm
    split at h
    · rename_i p k3 es hr
      split at h
      · rename_i e1 e2
        have e1 := ikN_inj e1; have e2 := ikN_inj e2
        subst e1; subst e2
        simp only [Option.some.injEq, Prod.mk.injEq] at h
        obtain ⟨rfl, rfl, rfl, rfl⟩ := h
        refine OpOk.pure fun Γ ρ w a hi hf => ?_
        have g := (evo_den hf x).1
        rw [hx] at g
        have gi := (evo_den hf i).1
        rw [hi'] at gi; simp only [Den] at gi
        obtain ⟨b, arr, clock, g1, _, g3, g4, _, g6⟩ := own_map hi hr g
        have hkey : MapKept.IsKey (.int k1) (.int k1 n) := rfl
        obtain ⟨hz1, hz2⟩ := h4 Γ ρ nx
        rcases ents_find (n := n) es arr.toList 0 g4 with ⟨f1, f2, _⟩ | ⟨j, e, s, f1, _, _, f4, f5, _⟩
        · cases ok with
          | true =>
            refine ⟨.tuple #[zv, .bool false], ?_, ?_, ?_⟩
            · simp [execOp, ho, g1, gi, Instr.lookup, run_underlying h1, MapKept.run_getObj_map g3, MapKept.run_checkKey h2 hkey, MapKept.run_findKey h2 f1, h3]
            · rw [← hk]; simp only [lkT, f2, Den]; exact ⟨_, rfl, by simp only [DenL]; exact ⟨_, _, rfl, hz1, _, _, rfl, by simp only [Den], rfl⟩⟩
            · rw [← hk]; simp [lkT, f2, SV.bd, bdL, hz2]
          | false =>
            refine ⟨zv, ?_, ?_, ?_⟩
            · simp [execOp, ho, g1, gi, Instr.lookup, run_underlying h1, MapKept.run_getObj_map g3, MapKept.run_checkKey h2 hkey, MapKept.run_findKey h2 f1, h3]
            · rw [← hk]; simp only [lkD, f2]; exact hz1
            · rw [← hk]; simp only [lkD, f2]; exact hz2
        · have hbs : s.bd nx = true := by
            cases p with
            | true =>
              by_cases hj : s = .junk
              · subst hj; rfl
              · exact (Den.ofNil (ρ := ρ) s _ f5).2 nx hj
            | false => exact lkE_bd g6 f4
          have f5 : Den Γ ρ s e.val := by
            cases p with
            | true => exact (Den.ofNil (ρ := ρ) s _ f5).1
            | false => exact f5
          cases ok with
          | true =>
            refine ⟨.tuple #[e.val, .bool true], ?_, ?_, ?_⟩
            · simp [execOp, ho, g1, gi, Instr.lookup, run_underlying h1, MapKept.run_getObj_map g3, MapKept.run_checkKey h2 hkey, MapKept.run_findKey h2 f1]
            · rw [← hk]; simp only [lkT, f4, Den]; exact ⟨_, rfl, by simp only [DenL]; exact ⟨_, _, rfl, f5, _, _, rfl, by simp only [Den], rfl⟩⟩
            · rw [← hk]; simp [lkT, f4, SV.bd, bdL, hbs]
          | false =>
            refine ⟨e.val, ?_, ?_, ?_⟩
            · simp [execOp, ho, g1, gi, Instr.lookup, run_underlying h1, MapKept.run_getObj_map g3, MapKept.run_checkKey h2 hkey, MapKept.run_findKey h2 f1]
            · rw [← hk]; simp only [lkD, f4]; exact f5
            · rw [← hk]; simp only [lkD, f4]; exact hbs
      · cases h
    · cases h
  · cases h

theorem ok_mapUpdate (hT : TabOk P T) {t : Nat} {m key v : Operand} (ho : o.op = .mapUpdate t m key v ∨ o.op = .insert t m key v) {sv : SV} {mem' : Mem} {nx' : Nat} {k : Prop} (h : xmapUpdate T fr mem nx t m key v = some (sv, mem', nx', k)) : OpOk P N fr mem nx o sv mem' nx' := by
  unfold xmapUpdate at h
  split at h
  · rename_i kt et k1 z r k2 n hm hx hi'
    obtain ⟨h1, h2, _⟩ := mapTy_ok (P := P) hT hm
    split at h
    · rename_i p k3 es hr
      split at h
      · rename_i e1 e2 hs hp
        have e1 := ikN_inj e1; have e2 := ikN_inj e2
        subst e1; subst e2
        simp only [Option.some.injEq, Prod.mk.injEq] at h
        obtain ⟨rfl, rfl, rfl, rfl⟩ := h
        intro Γ ρ w a hi hf
        have g := (evo_den hf m).1
        rw [hx] at g
        have gi := (evo_den hf key).1
        rw [hi'] at gi; simp only [Den] at gi
        obtain ⟨gv, gv'⟩ := evo_den hf v
        obtain ⟨b, arr, clock, g1, g2, g3, g4, g5, g6⟩ := own_map hi hr g
        have gv2 : Den Γ (pe p ρ) (evo fr v) (a.eval v) := by
          cases p with
          | true => exact gv.ofBd0 (by simpa using hp)
          | false => exact gv
        have hbd2 : (p || bdE nx (stE es n (evo fr v))) = true := by
          cases p with
          | true => rfl
          | false => exact stE_bd gv' g6
        have hkey : MapKept.IsKey (.int k1) (.int k1 n) := rfl
        have hval : ρ.val r = some (.map (some b)) := by
          simp only [Den] at g; rw [g.1, g1]
        obtain ⟨es', clock', hrun, hes⟩ : ∃ es' clock', (Instr.mapUpdate t (.map (some b)) (.int k1 n) (a.eval v)).run P w = .ok () { w with heap := w.heap.setIfInBounds b (.map es' clock') } ∧ EntsOk Γ (pe p ρ) k1 (stE es n (evo fr v)) es'.toList := by
          rcases ents_find (n := n) es arr.toList 0 g4 with ⟨f1, _, f3⟩ | ⟨j, e, s, f1, f2, f3, _, _, f6⟩
          · refine ⟨arr.push ⟨.int k1 n, a.eval v, clock⟩, clock + 1, ?_, by simpa using f3 _ _ clock gv2⟩
            simp [Instr.mapUpdate, run_underlying h1, MapKept.run_getObj_map g3, MapKept.run_checkKey h2 hkey, MapKept.run_findKey h2 f1, MapKept.run_setObj_map _ g3]
          · have hj : arr[j]? = some e := by simpa using f2
            refine ⟨arr.modify j fun e => { e with key := .int k1 n, val := a.eval v }, clock, ?_, by simpa using f6 _ _ gv2⟩
            simp [Instr.mapUpdate, run_underlying h1, MapKept.run_getObj_map g3, MapKept.run_checkKey h2 hkey, MapKept.run_findKey h2 f1, hj, f3, MapKept.run_keyThatStays hkey, MapKept.run_setObj_map _ g3]
        have hother : ∀ c, c ≠ b → ({ w with heap := w.heap.setIfInBounds b (.map es' clock') } : World).heap[c]? = w.heap[c]? := fun c hc => (MapKept.heap_set g3).2 c hc
        refine ⟨undef, .skip, Γ, ρ, _, ?_, .inr ⟨rfl, rfl⟩, by simp only [Den], rfl, hi.set hr g2 g5 _ hother ⟨b, es', clock', g2, hval, (MapKept.heap_set g3).1, hes, g5⟩ hbd2, Env.same_refl _ _, Nat.le_refl _, Stp.set _ hr g2 rfl rfl rfl (by simp) hother, Gh.le_refl _, fun _ hb => .inl hb⟩
        rcases ho with ho | ho <;> simp [execOp, ho, g1, gi, hrun]
      · cases h
    · cases h
  · cases h
end
end Go.Proofs.Ytjchmajamlehmaa.X
