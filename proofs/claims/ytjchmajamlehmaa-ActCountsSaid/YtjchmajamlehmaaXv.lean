/- Drawn regions whose writers have no order among themselves: new blocks under names that were kept free. (Under way.) -/
import Derived.Test.YtjchmajamlehmaaXm3
namespace Go.Proofs.Ytjchmajamlehmaa.X
open Go Go.RowKit

def Ext (ρ ρ' : Env) : Prop := ∀ r, (ρ.blk r = none ∧ ρ.val r = none) ∨ (ρ'.blk r = ρ.blk r ∧ ρ'.val r = ρ.val r)
theorem Ext.blk {ρ ρ' : Env} (h : Ext ρ ρ') {r b : Nat} (e : ρ.blk r = some b) : ρ'.blk r = some b := by
  rcases h r with ⟨h, _⟩ | ⟨h, _⟩
  · rw [h] at e; cases e
  · rw [h]; exact e
theorem Ext.val {ρ ρ' : Env} (h : Ext ρ ρ') {r : Nat} {v : Value} (e : ρ.val r = some v) : ρ'.val r = some v := by
  rcases h r with ⟨_, h⟩ | ⟨_, h⟩
  · rw [h] at e; cases e
  · rw [h]; exact e
mutual
theorem Den.mono {Γ : Gh} : ∀ {ρ ρ' : Env} (s : SV) (v : Value), Ext ρ ρ' → Den Γ ρ s v → Den Γ ρ' s v
  | _, _, .int _ _, _, _, h => by simpa only [Den] using h
  | _, _, .bool _, _, _, h => by simpa only [Den] using h
  | ρ, ρ', .loc r o, v, hs, h => by
    simp only [Den] at *
    obtain ⟨b, h1, h2⟩ := h
    exact ⟨b, hs.blk h1, h2⟩
  | ρ, ρ', .agg l, v, hs, h => by
    simp only [Den] at *
    obtain ⟨vs, e, h⟩ := h
    exact ⟨vs, e, DenL.mono l _ hs h⟩
  | ρ, ρ', .tup l, v, hs, h => by
    simp only [Den] at *
    obtain ⟨vs, e, h⟩ := h
    exact ⟨vs, e, DenL.mono l _ hs h⟩
  | ρ, ρ', .fn f a c, v, hs, h => by
    simp only [Den] at *
    obtain ⟨va, vc, e, h1, h2⟩ := h
    exact ⟨va, vc, e, DenL.mono a _ hs h1, DenL.mono c _ hs h2⟩
  | _, _, .nils, _, _, h => by simpa only [Den] using h
  | _, _, .sl x z xs, v, _, h => by simpa only [Den] using h
  | ρ, ρ', .own r, v, hs, h => by
    simp only [Den] at *
    exact ⟨hs.val h.1, h.2⟩
  | ρ, ρ', .relt r z i o, v, hs, h => by
    simp only [Den] at *
    obtain ⟨b, h1, h2⟩ := h
    exact ⟨b, hs.blk h1, h2⟩
  | ρ, ρ', .osub r z lo k, v, hs, h => by
    simp only [Den] at *
    obtain ⟨b, cap, off, h1, h2⟩ := h
    exact ⟨b, cap, off, hs.blk h1, h2⟩
  | _, _, .elt s, v, _, h => by simpa only [Den] using h
  | _, _, .raw _, _, _, h => by simpa only [Den] using h
  | _, _, .any, _, _, h => by simpa only [Den] using h
  | _, _, .junk, _, _, _ => by simp only [Den]
theorem DenL.mono {Γ : Gh} : ∀ {ρ ρ' : Env} (l : List SV) (vs : List Value), Ext ρ ρ' → DenL Γ ρ l vs → DenL Γ ρ' l vs
  | _, _, [], _, _, h => by simpa only [DenL] using h
  | ρ, ρ', s :: l, vs, hs, h => by
    simp only [DenL] at *
    obtain ⟨v, r, e, h1, h2⟩ := h
    exact ⟨v, r, e, Den.mono s v hs h1, DenL.mono l r hs h2⟩
end
theorem EntsOk.mono {Γ : Gh} {k : IntKind} {ρ ρ' : Env} (hs : Ext ρ ρ') : ∀ {es : List (Int × SV)} {l : List MapEntry}, EntsOk Γ ρ k es l → EntsOk Γ ρ' k es l
  | [], _, h => h
  | (m, s) :: es, l, h => by
    obtain ⟨e, r, h1, h2, h3, h4⟩ := h
    exact ⟨e, r, h1, h2, Den.mono s _ hs h3, EntsOk.mono hs h4⟩
theorem Ext.known {ρ ρ' : Env} (h : Ext ρ ρ') {r : Nat} (hk : ¬ (ρ.blk r = none ∧ ρ.val r = none)) : ρ'.blk r = ρ.blk r ∧ ρ'.val r = ρ.val r := (h r).resolve_left hk
theorem BlkOk.known {Γ : Gh} {ρ : Env} {w : World} {r : Nat} {B : Blk} (h : BlkOk Γ ρ w r B) : ¬ (ρ.blk r = none ∧ ρ.val r = none) := by
  rintro ⟨h1, h2⟩
  cases B with
  | cells l E => obtain ⟨b, arr, h3, _⟩ := h; rw [h1] at h3; cases h3
  | row z E xs => obtain ⟨v, h3, _⟩ := h; rw [h2] at h3; cases h3
  | lp nb q => obtain ⟨h3, _⟩ := h; rw [h1] at h3; cases h3
  | mp p k es => obtain ⟨b, arr, clock, h3, _⟩ := h; rw [h1] at h3; cases h3
theorem BlkOk.moveX {Γ : Gh} {ρ ρ' : Env} {w w' : World} {r : Nat} {B : Blk} (hs : Ext ρ ρ') (hw : ∀ b, ρ.blk r = some b → w'.heap[b]? = w.heap[b]?) (h : BlkOk Γ ρ w r B) : BlkOk Γ ρ' w' r B := by
  obtain ⟨e1, e2⟩ := hs.known h.known
  cases B with
  | cells l E =>
    obtain ⟨b, arr, h1, h2, h3, h4, h5⟩ := h
    exact ⟨b, arr, by rw [e1, h1], by rw [hw b h1, h2], DenL.mono l _ hs h3, h4, h5⟩
  | row z E xs =>
    obtain ⟨v, hv, h⟩ := h
    refine ⟨v, by rw [e2, hv], ?_⟩
    rcases h with ⟨h1, h2, h3⟩ | ⟨b, arr, cap, h1, h2, h3, h4, h5, h6, h7, h8⟩
    · exact .inl ⟨h1, h2, by rw [e1, h3]⟩
    · exact .inr ⟨b, arr, cap, by rw [e1, h1], h2, by rw [hw b h1, h3], h4, h5, h6, h7, h8⟩
  | lp nb q =>
    obtain ⟨h1, h2, tmps, dfr, h3, h4, h5⟩ := h
    exact ⟨by rw [e1, h1], h2, tmps, dfr, by rw [hw _ h1, h3], h4, fun d s hd => ⟨Den.mono s _ hs (h5 d s hd).1, (h5 d s hd).2⟩⟩
  | mp p k es =>
    obtain ⟨b, arr, clock, h1, h2, h3, h4, h5⟩ := h
    refine ⟨b, arr, clock, by rw [e1, h1], by rw [e2, h2], by rw [hw b h1, h3], ?_, h5⟩
    cases p with
    | true => exact h4
    | false => exact EntsOk.mono hs h4
theorem Ext.add {ρ : Env} {r0 : Nat} {b : Option Nat} {v : Option Value} (h : ρ.blk r0 = none ∧ ρ.val r0 = none) : Ext ρ (ρ.add r0 b v) := fun r => by
  by_cases e : r = r0
  · subst e; exact .inl h
  · exact .inr ⟨by simp [Env.add, e], by simp [Env.add, e]⟩
theorem Inv.allocAt {Γ : Gh} {ρ : Env} {nx : Nat} {mem : Mem} {w : World} (h : Inv Γ ρ nx mem w) {r0 : Nat} (hr0 : r0 < nx) (hund : ρ.blk r0 = none ∧ ρ.val r0 = none) (o : Obj) (v : Option Value) (B : Blk) (hB : BlkOk Γ (ρ.add r0 (some w.heap.size) v) (w.alloc o) r0 B) (hbd : B.bd nx = true) :
    Inv Γ (ρ.add r0 (some w.heap.size) v) nx ((r0, B) :: mem) (w.alloc o) where
  pub b cs hb := by
    obtain ⟨E, fz, e⟩ := h.pub b cs hb
    exact ⟨E, fz, by rw [heap_old w o b (h.lt hb), e]⟩
  priv r C hC := by
    rw [fnd_cons] at hC
    split at hC
    · rename_i e; subst e; cases hC
      exact ⟨hB, hr0, hbd⟩
    · obtain ⟨h1, h2, h3⟩ := h.priv r C hC
      exact ⟨h1.moveX (Ext.add hund) (fun b hb => heap_old w o b (h1.lt hb)), h2, h3⟩
  inj r r' b C C' hC hC' hb hb' := by
    rw [fnd_cons] at hC hC'
    split at hC <;> split at hC'
    · omega
    · rename_i e e'
      subst e
      obtain ⟨h1, _, _⟩ := h.priv r' C' hC'
      rw [((Ext.add hund).known h1.known).1] at hb'
      have := h1.lt hb'
      rw [Env.add_blk] at hb; cases hb; omega
    · rename_i e e'
      subst e'
      obtain ⟨h1, _, _⟩ := h.priv r C hC
      rw [((Ext.add hund).known h1.known).1] at hb
      have := h1.lt hb
      rw [Env.add_blk] at hb'; cases hb'; omega
    · obtain ⟨h1, _, _⟩ := h.priv r C hC
      obtain ⟨h1', _, _⟩ := h.priv r' C' hC'
      rw [((Ext.add hund).known h1.known).1] at hb
      rw [((Ext.add hund).known h1'.known).1] at hb'
      exact h.inj r r' b C C' hC hC' hb hb'
theorem Stp.allocAt {Γ : Gh} {ρ : Env} {nx : Nat} {mem : Mem} {w : World} (h : Inv Γ ρ nx mem w) {r0 : Nat} (hund : ρ.blk r0 = none ∧ ρ.val r0 = none) (o : Obj) (v : Option Value) (B : Blk) :
    Stp ρ mem w (ρ.add r0 (some w.heap.size) v) ((r0, B) :: mem) (w.alloc o) where
  os := rfl
  tape := rfl
  output := rfl
  size := by simp
  keep b hb _ := heap_old w o b hb
  own b := by
    rintro ⟨r, C, hC, hb⟩
    rw [fnd_cons] at hC
    split at hC
    · rename_i e; subst e
      rw [Env.add_blk] at hb; cases hb
      exact .inr (Nat.le_refl _)
    · obtain ⟨h1, _, _⟩ := h.priv r C hC
      rw [((Ext.add hund).known h1.known).1] at hb
      exact .inl ⟨r, C, hC, hb⟩

section
variable {rd : Option Nat} {P : Program} {T : Tab} {N : Nat} {ops : Array Oper} {fr : Fr} {mem : Mem} {nx : Nat}
def UOk (P : Program) (N m : Nat) (fr : Fr) (mem : Mem) (nx : Nat) (un : List Nat) (o : Oper) (sv : SV) (mem' : Mem) (un' : List Nat) : Prop :=
  ∀ Γ ρ w a, Inv Γ ρ nx mem w → FrDen Γ ρ nx N fr a → (∀ r ∈ un, ρ.blk r = none ∧ ρ.val r = none) → ∃ v r Γ' ρ' w', (execOp a.eval o).run P w = .ok r w' ∧ (r = .value v ∨ r = .skip ∧ v = undef) ∧
    Den Γ' ρ' sv v ∧ sv.bd nx = true ∧ Inv Γ' ρ' nx mem' w' ∧ (Env.same nx ρ ρ' ∨ Ext ρ ρ') ∧ Env.same m ρ ρ' ∧ Stp ρ mem w ρ' mem' w' ∧ Γ.le Γ' ∧ (∀ b, Γ' b ≠ none → Γ b ≠ none ∨ Owned ρ mem b ∨ w.heap.size ≤ b) ∧ ∀ r ∈ un', ρ'.blk r = none ∧ ρ'.val r = none
theorem UOk.of {m : Nat} {un un' : List Nat} {o : Oper} {sv : SV} {mem' : Mem} (h : OpOk P N fr mem nx o sv mem' nx) (hm : m ≤ nx) (hun : ∀ r ∈ un', r ∈ un) (hlt : ∀ r ∈ un, r < nx) : UOk P N m fr mem nx un o sv mem' un' := by
  intro Γ ρ w a hi hf hu
  obtain ⟨v, r, Γ', ρ', w', h1, h2, h3, h4, h5, h6, h7, h8, h9, h10⟩ := h Γ ρ w a hi hf
  refine ⟨v, r, Γ', ρ', w', h1, h2, h3, h4, h5, .inl h6, Env.same_mono hm h6, h8, h9, h10, fun r hr => ?_⟩
  have := hlt r (hun r hr)
  rw [(h6 r this).1, (h6 r this).2]
  exact hu r (hun r hr)
theorem UOk.new {m r0 : Nat} {un un' : List Nat} {o : Oper} {l : List SV} {E : Nat} (hr0 : r0 ∈ un) (hlt : r0 < nx) (hm : m ≤ r0) (hun : ∀ r ∈ un', r ∈ un ∧ r ≠ r0)
    (hrun : ∀ Γ ρ w a, Inv Γ ρ nx mem w → FrDen Γ ρ nx N fr a → ∃ cs : Array Value, (execOp a.eval o).run P w = .ok (.value (.pointer (some ⟨w.heap.size, 0, none⟩))) (w.alloc (.cells cs E)) ∧
    DenL Γ ρ l cs.toList ∧ (∀ c ∈ cs.toList, c.oneCell' = true) ∧ bdL nx l = true) : UOk P N m fr mem nx un o (.loc r0 0) ((r0, .cells l E) :: mem) un' := by
  intro Γ ρ w a hi hf hu
  obtain ⟨cs, h1, h2, h3, h4⟩ := hrun Γ ρ w a hi hf
  have hund := hu r0 hr0
  refine ⟨_, _, Γ, ρ.add r0 (some w.heap.size) none, _, h1, .inl rfl, ?_, by simpa [SV.bd] using hlt, ?_, .inr (Ext.add hund), fun r hr => ?_, Stp.allocAt hi hund _ _ _, Gh.le_refl _, fun _ hb => .inl hb, fun r hr => ?_⟩
  · simp only [Den]; exact ⟨_, Env.add_blk _ _ _ _, rfl⟩
  · refine hi.allocAt hlt hund _ none (.cells l E) ⟨w.heap.size, cs, Env.add_blk _ _ _ _, by rw [heap_alloc_new], DenL.mono l _ (Ext.add hund) h2, h3, ?_⟩ h4
    cases hq : Γ w.heap.size with
    | none => rfl
    | some cs' => exact absurd (hi.lt hq) (Nat.lt_irrefl _)
  · have : r ≠ r0 := by omega
    simp [Env.add, this]
  · obtain ⟨h5, h6⟩ := hun r hr
    simp only [Env.add, h6, if_false]
    exact hu r h5

theorem UOk.row {m r0 : Nat} {un un' : List Nat} {o : Oper} {z E : Nat} {xs : List SV} {mem1 : Mem} (hr0 : r0 ∈ un) (hlt : r0 < nx) (hm : m ≤ r0) (hun : ∀ r ∈ un', r ∈ un ∧ r ≠ r0) (hsub : ∀ r C, fnd mem1 r = some C → fnd mem r = some C)
    (h : OpOk P N fr mem nx o (.own nx) ((nx, .row z E xs) :: mem1) (nx + 1)) : UOk P N m fr mem nx un o (.own r0) ((r0, .row z E xs) :: mem1) un' := by
  intro Γ ρ w a hi hf hu
  obtain ⟨v, r, Γ', ρ', w', h1, h2, h3, h4, h5, h6, h7, h8, h9, h10⟩ := h Γ ρ w a hi hf
  have hund := hu r0 hr0
  have hx : Ext ρ (ρ.add r0 (ρ'.blk nx) (ρ'.val nx)) := Ext.add hund
  have hA : (ρ.add r0 (ρ'.blk nx) (ρ'.val nx)).blk r0 = ρ'.blk nx := by simp [Env.add]
  have hB : (ρ.add r0 (ρ'.blk nx) (ρ'.val nx)).val r0 = ρ'.val nx := by simp [Env.add]
  have hne : ∀ {r C}, fnd mem1 r = some C → r ≠ r0 := fun {r C} hC e => by
    subst e
    exact (hi.priv r C (hsub r C hC)).1.known hund
  have hC' : ∀ {r C}, fnd mem1 r = some C → fnd ((nx, Blk.row z E xs) :: mem1) r = some C := fun {r C} hC => by
    rw [fnd_cons, if_neg (by have := (hi.priv r C (hsub r C hC)).2.1; omega)]; exact hC
  have hold : ∀ {r C}, fnd mem1 r = some C → (ρ.add r0 (ρ'.blk nx) (ρ'.val nx)).blk r = ρ'.blk r := fun {r C} hC => by
    have h1 := hne hC
    rw [(h6 r (hi.priv r C (hsub r C hC)).2.1).1]
    simp [Env.add, h1]
  have hnew : fnd ((nx, Blk.row z E xs) :: mem1) nx = some (.row z E xs) := by rw [fnd_cons, if_pos rfl]
  refine ⟨v, r, Γ', ρ.add r0 (ρ'.blk nx) (ρ'.val nx), w', h1, h2, ?_, by simpa [SV.bd] using hlt, ⟨h5.pub, ?_, ?_⟩, .inr hx, fun r hr => ?_, ⟨h8.os, h8.tape, h8.output, h8.size, h8.keep, ?_⟩, h9, h10, fun r hr => ?_⟩
  · simp only [Den] at h3 ⊢
    rw [hB]; exact h3
  · intro r C hC
    rw [fnd_cons] at hC
    split at hC
    · rename_i e; subst e; cases hC
      obtain ⟨⟨v2, g1, g2⟩, _, _⟩ := h5.priv nx _ hnew
      refine ⟨⟨v2, by rw [hB]; exact g1, ?_⟩, hlt, rfl⟩
      rw [hA]; exact g2
    · obtain ⟨g1, g2, g3⟩ := hi.priv r C (hsub r C hC)
      obtain ⟨g4, _, _⟩ := h5.priv r C (hC' hC)
      have hback : Env.same nx ρ' ρ := fun x hx => ⟨(h6 x hx).1.symm, (h6 x hx).2.symm⟩
      have g5 : BlkOk Γ' ρ w' r C := g4.move (Gh.le_refl _) hback g2 g3 (fun b _ => ⟨rfl, id⟩)
      exact ⟨g5.moveX hx (fun _ _ => rfl), g2, g3⟩
  · intro r r' b C C' hC hC2 hb hb'
    rw [fnd_cons] at hC hC2
    split at hC <;> split at hC2
    · omega
    · rename_i e e'
      subst e
      rw [hA] at hb
      rw [hold hC2] at hb'
      have := h5.inj nx r' b _ _ hnew (hC' hC2) hb hb'
      have := (hi.priv r' C' (hsub r' C' hC2)).2.1
      omega
    · rename_i e e'
      subst e'
      rw [hA] at hb'
      rw [hold hC] at hb
      have := h5.inj r nx b _ _ (hC' hC) hnew hb hb'
      have := (hi.priv r C (hsub r C hC)).2.1
      omega
    · rw [hold hC] at hb
      rw [hold hC2] at hb'
      exact h5.inj r r' b C C' (hC' hC) (hC' hC2) hb hb'
  · have : r ≠ r0 := by omega
    simp [Env.add, this]
  · rintro b ⟨r, C, hC, hb⟩
    rw [fnd_cons] at hC
    split at hC
    · rename_i e; subst e
      rw [hA] at hb
      exact h8.own b ⟨nx, _, hnew, hb⟩
    · rw [hold hC] at hb
      exact h8.own b ⟨r, C, hC' hC, hb⟩
  · obtain ⟨h5, h6⟩ := hun r hr
    simp only [Env.add, h6, if_false]
    exact hu r h5

structure Stg where
  mem : Mem
  dn : List Nat
  un : List Nat
def stAt (sg : List Stg) (k : Nat) : Stg := match sg[k]? with | some x => x | none => ⟨[], [], []⟩
def mayU (bf : List (Nat × List Nat)) (ws dn : List Nat) (i : Nat) : Bool := !hasN dn i && ws.all (fun w => (!hasN (bfAt bf i) w || hasN dn w) && (!hasN (bfAt bf w) i || !hasN dn w))
def UStep (P : Program) (N m : Nat) (ops : Array Oper) (nx : Nat) (sg : List Stg) (ws : List Nat) (bf : List (Nat × List Nat)) (fr : Fr) (i : Nat) (o : Oper) (sv : SV) : Prop :=
  ∀ k, k < sg.length → mayU bf ws (stAt sg k).dn i = true →
    match hasN ws i with
    | true => gd ops (rs fr (o.looksAt ops)) o.guard = some true ∧ ∃ k', k' < sg.length ∧ (∀ v, v ∈ (stAt sg k').dn ↔ v ∈ (stAt sg k).dn ∨ v = i) ∧ UOk P N m (rs fr (o.looksAt ops)) (stAt sg k).mem nx (stAt sg k).un o sv (stAt sg k').mem (stAt sg k').un
    | false => QStep P N ops (stAt sg k).mem nx fr o sv
def UAll (P : Program) (N m : Nat) (ops : Array Oper) (nx : Nat) (sg : List Stg) (ws : List Nat) (bf : List (Nat × List Nat)) : Nat → List Oper → List SV → Fr → Prop
  | _, [], [], _ => True
  | i, o :: l, s :: ss, fr => UStep P N m ops nx sg ws bf fr i o s ∧ UAll P N m ops nx sg ws bf (i + 1) l ss (putO fr o.dst s)
  | _, _, _, _ => False
variable {sg : List Stg} {ws : List Nat} {bf : List (Nat × List Nat)} {m n0 : Nat}
theorem UAll.len : ∀ {i : Nat} {l : List Oper} {ss : List SV} {fr : Fr}, UAll P N m ops nx sg ws bf i l ss fr → ss.length = l.length
  | _, [], [], _, _ => rfl
  | _, [], _ :: _, _, h => h.elim
  | _, _ :: _, [], _, h => h.elim
  | i, o :: l, s :: ss, fr, h => by simp [UAll.len h.2]
theorem UAll.at : ∀ {i0 : Nat} {l : List Oper} {ss : List SV} {fr : Fr}, UAll P N m ops nx sg ws bf i0 l ss fr → ∀ i o s, l[i]? = some o → ss[i]? = some s → UStep P N m ops nx sg ws bf (lexFr fr (l.take i) (ss.take i)) (i0 + i) o s
  | _, [], _, _, _, i, o, s, h, _ => by simp at h
  | _, _ :: _, [], _, h, _, _, _, _, _ => h.elim
  | i0, o' :: l, s' :: ss, fr, h, 0, o, s, h1, h2 => by
    simp at h1 h2; subst h1 h2
    simpa [lexFr] using h.1
  | i0, o' :: l, s' :: ss, fr, h, i + 1, o, s, h1, h2 => by
    simp at h1 h2
    have := UAll.at h.2 i o s h1 h2
    rw [show i0 + (i + 1) = i0 + 1 + i by omega]
    simpa [lexFr] using this

end
end Go.Proofs.Ytjchmajamlehmaa.X
