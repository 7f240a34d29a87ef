/- The symbolic memory, the invariant and the step relation; one operation, symbolically. -/
import Derived.Test.YtjchmajamlehmaaXa
namespace Go.Proofs.Ytjchmajamlehmaa.X
open Go Go.RowKit

structure Lp where
  l : Nat
  left : Option Code
  fr : List (Nat × SV)
  N : Nat
  fn : FuncId
  ps : Array Tmp
  assign : Code
  body : Code
def Lp.record (q : Lp) (tmps : Array Value) (dfr : Nat) : Loop := { state := if q.left.isNone then .ready else .done, pending := q.left, fn := q.fn, tmps := tmps, params := q.ps, assign := q.assign, body := q.body, defers := dfr }
inductive Blk where
  | cells (l : List SV) (E : Nat)
  | row (z E : Nat) (xs : List SV)
  | lp (nb : Nat) (q : Lp)
  | mp (p : Bool) (k : IntKind) (es : List (Int × SV))

abbrev Mem := List (Nat × Blk)
abbrev Fr := List (Nat × SV)

def upd {α : Type} : List (Nat × α) → Nat → α → List (Nat × α)
  | [], _, _ => []
  | (k, v) :: l, n, u => match Nat.beq k n with
    | true => (k, u) :: l
    | false => (k, v) :: upd l n u

theorem fnd_upd {α : Type} (l : List (Nat × α)) (n m : Nat) (u : α) (h : (fnd l n).isSome = true) : fnd (upd l n u) m = if m = n then some u else fnd l m := by
  induction l with
  | nil => simp [fnd] at h
  | cons p l ih =>
    obtain ⟨k, v⟩ := p
    cases hb : Nat.beq k n with
    | true =>
      have hk : k = n := Nat.eq_of_beq_eq_true hb
      subst hk
      simp only [upd, hb, fnd_cons]
      by_cases hm : m = k
      · subst hm; simp
      · simp only [if_neg hm, if_neg (fun e => hm e.symm : ¬ k = m)]
    | false =>
      have hk : k ≠ n := fun e => by subst e; simp at hb
      simp only [upd, hb, fnd_cons]
      rw [fnd_cons, if_neg hk] at h
      rw [ih h]
      by_cases hm : m = n
      · subst hm; rw [if_neg hk, if_pos rfl, if_pos rfl]
      · simp only [if_neg hm]

def EntsOk (Γ : Gh) (ρ : Env) (k : IntKind) : List (Int × SV) → List MapEntry → Prop
  | [], l => l = []
  | (n, s) :: es, l => ∃ e r, l = e :: r ∧ e.key = .int k n ∧ Den Γ ρ s e.val ∧ EntsOk Γ ρ k es r
def bdE (n : Nat) : List (Int × SV) → Bool
  | [] => true
  | (_, s) :: es => s.bd n && bdE n es
theorem EntsOk.ext {Γ Γ' : Gh} (hΓ : Γ.sub Γ') {k : IntKind} {n : Nat} {ρ ρ' : Env} (hs : Env.same n ρ ρ') : ∀ {es : List (Int × SV)} {l : List MapEntry}, bdE n es = true → EntsOk Γ ρ k es l → EntsOk Γ' ρ' k es l
  | [], _, _, h => h
  | (m, s) :: es, l, hb, h => by
    simp only [bdE, Bool.and_eq_true] at hb
    obtain ⟨e, r, h1, h2, h3, h4⟩ := h
    exact ⟨e, r, h1, h2, Den.ext0 hΓ s _ hs hb.1 h3, EntsOk.ext hΓ hs hb.2 h4⟩
theorem EntsOk.pub {Γ Γ' : Gh} (hΓ : Γ.sub Γ') {k : IntKind} : ∀ {es : List (Int × SV)} {l : List MapEntry}, EntsOk Γ Env.nil k es l → EntsOk Γ' Env.nil k es l
  | [], _, h => h
  | (m, s) :: es, l, h => by
    obtain ⟨e, r, h1, h2, h3, h4⟩ := h
    exact ⟨e, r, h1, h2, Den.pub0 hΓ s _ h3, EntsOk.pub hΓ h4⟩
def pe (p : Bool) (ρ : Env) : Env := match p with
  | true => Env.nil
  | false => ρ
theorem EntsOk.move {Γ Γ' : Gh} (hΓ : Γ.sub Γ') {p : Bool} {k : IntKind} {n : Nat} {ρ ρ' : Env} (hs : Env.same n ρ ρ') {es : List (Int × SV)} {l : List MapEntry} (hb : (p || bdE n es) = true) (h : EntsOk Γ (pe p ρ) k es l) : EntsOk Γ' (pe p ρ') k es l := by
  cases p with
  | true => exact EntsOk.pub hΓ h
  | false => exact EntsOk.ext hΓ hs hb h

def BlkOk (Γ : Gh) (ρ : Env) (w : World) (r : Nat) : Blk → Prop
  | .cells l E => ∃ b arr, ρ.blk r = some b ∧ w.heap[b]? = some (.cells arr E (0, 0)) ∧ DenL Γ ρ l arr.toList ∧ (∀ c ∈ arr.toList, c.oneCell' = true) ∧ Γ b = none
  | .row z E xs => ∃ v, ρ.val r = some v ∧ ((v = .slice none 0 0 ∧ xs = [] ∧ ρ.blk r = none) ∨
      ∃ b arr cap, ρ.blk r = some b ∧ v = .slice (some ⟨b, 0, none⟩) xs.length cap ∧ w.heap[b]? = some (.cells arr E (0, 0)) ∧ xs.length ≤ cap ∧ arr.size = cap * z ∧ DenE Γ z xs arr.toList ∧ (∀ c ∈ arr.toList, c.oneCell' = true) ∧ Γ b = none)
  | .lp nb q => ρ.blk r = some q.l ∧ Γ q.l = none ∧ ∃ tmps dfr, w.heap[q.l]? = some (.loop (q.record tmps dfr)) ∧ tmps.size = q.N ∧ ∀ d s, fnd q.fr d = some s → Den Γ ρ s (tmps.getD d undef) ∧ s.bd nb = true
  | .mp p k es => ∃ b arr clock, ρ.blk r = some b ∧ ρ.val r = some (.map (some b)) ∧ w.heap[b]? = some (.map arr clock) ∧ EntsOk Γ (pe p ρ) k es arr.toList ∧ Γ b = none

def Blk.bd (n : Nat) : Blk → Bool
  | .cells l _ => bdL n l
  | .row _ _ _ => true
  | .lp nb _ => Nat.ble nb n
  | .mp p _ es => p || bdE n es

structure Inv (Γ : Gh) (ρ : Env) (nx : Nat) (mem : Mem) (w : World) : Prop where
  pub : ∀ b cs, Γ b = some cs → ∃ E fz, w.heap[b]? = some (.cells cs.toArray E fz)
  priv : ∀ r B, fnd mem r = some B → BlkOk Γ ρ w r B ∧ r < nx ∧ B.bd nx = true
  inj : ∀ r r' b B B', fnd mem r = some B → fnd mem r' = some B' → ρ.blk r = some b → ρ.blk r' = some b → r = r'

def Owned (ρ : Env) (mem : Mem) (b : Nat) : Prop := ∃ r B, fnd mem r = some B ∧ ρ.blk r = some b

structure Stp (ρ : Env) (mem : Mem) (w : World) (ρ' : Env) (mem' : Mem) (w' : World) : Prop where
  os : w'.os = w.os
  tape : w'.tape = w.tape
  output : w'.output = w.output
  size : w.heap.size ≤ w'.heap.size
  keep : ∀ b, b < w.heap.size → ¬ Owned ρ mem b → w'.heap[b]? = w.heap[b]?
  own : ∀ b, Owned ρ' mem' b → Owned ρ mem b ∨ w.heap.size ≤ b

theorem Stp.refl (ρ : Env) (mem : Mem) (w : World) : Stp ρ mem w ρ mem w := ⟨rfl, rfl, rfl, Nat.le_refl _, fun _ _ _ => rfl, fun _ h => .inl h⟩
theorem Stp.trans {ρ ρ₁ ρ₂ : Env} {m m₁ m₂ : Mem} {w w₁ w₂ : World} (h : Stp ρ m w ρ₁ m₁ w₁) (k : Stp ρ₁ m₁ w₁ ρ₂ m₂ w₂) : Stp ρ m w ρ₂ m₂ w₂ where
  os := k.os.trans h.os
  tape := k.tape.trans h.tape
  output := k.output.trans h.output
  size := Nat.le_trans h.size k.size
  keep b hb ho := (k.keep b (Nat.lt_of_lt_of_le hb h.size) (fun hh => (h.own b hh).elim ho (fun hh => by omega))).trans (h.keep b hb ho)
  own b hb := (k.own b hb).elim (h.own b) (fun hh => .inr (Nat.le_trans h.size hh))

structure FrDen (Γ : Gh) (ρ : Env) (nx N : Nat) (fr : Fr) (a : Act) : Prop where
  size : a.tmps.size = N
  slot : ∀ d s, fnd fr d = some s → Den Γ ρ s (a.tmps.getD d undef) ∧ s.bd nx = true

theorem Inv.lt {Γ : Gh} {ρ : Env} {nx : Nat} {mem : Mem} {w : World} (h : Inv Γ ρ nx mem w) {b : Nat} {cs : List Value} (hb : Γ b = some cs) : b < w.heap.size := by
  obtain ⟨E, fz, e⟩ := h.pub b cs hb
  exact (Array.getElem?_eq_some_iff.1 e).1

theorem BlkOk.lt {Γ : Gh} {ρ : Env} {w : World} {r : Nat} {B : Blk} (h : BlkOk Γ ρ w r B) {b : Nat} (hb : ρ.blk r = some b) : b < w.heap.size := by
  cases B with
  | cells l E =>
    obtain ⟨b', arr, h1, h2, _⟩ := h
    rw [hb] at h1; cases h1
    exact (Array.getElem?_eq_some_iff.1 h2).1
  | row z E xs =>
    obtain ⟨v, _, h⟩ := h
    rcases h with ⟨_, _, h⟩ | ⟨b', arr, cap, h1, _, h2, _⟩
    · rw [hb] at h; cases h
    · rw [hb] at h1; cases h1
      exact (Array.getElem?_eq_some_iff.1 h2).1
  | lp nb q =>
    obtain ⟨h1, _, tmps, dfr, h2, _⟩ := h
    rw [hb] at h1; cases h1
    exact (Array.getElem?_eq_some_iff.1 h2).1
  | mp p k es =>
    obtain ⟨b', arr, clock, h1, _, h2, _⟩ := h
    rw [hb] at h1; cases h1
    exact (Array.getElem?_eq_some_iff.1 h2).1

theorem BlkOk.move {Γ Γ' : Gh} (hΓ : Γ.le Γ') {ρ ρ' : Env} {w w' : World} {r nx : Nat} {B : Blk} (hs : Env.same nx ρ ρ') (hr : r < nx) (hbd : B.bd nx = true)
    (hw : ∀ b, ρ.blk r = some b → w'.heap[b]? = w.heap[b]? ∧ (Γ b = none → Γ' b = none)) (h : BlkOk Γ ρ w r B) : BlkOk Γ' ρ' w' r B := by
  cases B with
  | cells l E =>
    obtain ⟨b, arr, h1, h2, h3, h4, h5⟩ := h
    exact ⟨b, arr, by rw [(hs r hr).1, h1], by rw [(hw b h1).1, h2], DenL.ext hΓ l _ hs hbd h3, h4, (hw b h1).2 h5⟩
  | row z E xs =>
    obtain ⟨v, hv, h⟩ := h
    refine ⟨v, by rw [(hs r hr).2, hv], ?_⟩
    rcases h with ⟨h1, h2, h3⟩ | ⟨b, arr, cap, h1, h2, h3, h4, h5, h6, h7, h8⟩
    · exact .inl ⟨h1, h2, by rw [(hs r hr).1, h3]⟩
    · exact .inr ⟨b, arr, cap, by rw [(hs r hr).1, h1], h2, by rw [(hw b h1).1, h3], h4, h5, DenE.ext hΓ z xs _ h6, h7, (hw b h1).2 h8⟩
  | lp nb q =>
    obtain ⟨h1, h2, tmps, dfr, h3, h4, h5⟩ := h
    exact ⟨by rw [(hs r hr).1, h1], (hw _ h1).2 h2, tmps, dfr, by rw [(hw _ h1).1, h3], h4, fun d s hd => ⟨Den.ext hΓ s _ (fun x hx => hs x (Nat.lt_of_lt_of_le hx (Nat.le_of_ble_eq_true hbd))) (h5 d s hd).2 (h5 d s hd).1, (h5 d s hd).2⟩⟩
  | mp p k es =>
    obtain ⟨b, arr, clock, h1, h2, h3, h4, h5⟩ := h
    exact ⟨b, arr, clock, by rw [(hs r hr).1, h1], by rw [(hs r hr).2, h2], by rw [(hw b h1).1, h3], EntsOk.move hΓ.1 hs hbd h4, (hw b h1).2 h5⟩

def Env.add (ρ : Env) (n : Nat) (b : Option Nat) (v : Option Value) : Env := ⟨fun r => if r = n then b else ρ.blk r, fun r => if r = n then v else ρ.val r⟩
theorem Env.add_same (ρ : Env) (n : Nat) (b : Option Nat) (v : Option Value) : Env.same n ρ (ρ.add n b v) := fun r hr => by
  simp [Env.add, Nat.ne_of_lt hr]
theorem Env.add_blk (ρ : Env) (n : Nat) (b : Option Nat) (v : Option Value) : (ρ.add n b v).blk n = b := by simp [Env.add]
theorem Env.add_val (ρ : Env) (n : Nat) (b : Option Nat) (v : Option Value) : (ρ.add n b v).val n = v := by simp [Env.add]

theorem bd_mono_aux (n m : Nat) (h : n ≤ m) (r : Nat) (hr : Nat.blt r n = true) : Nat.blt r m = true := by
  simp at *; omega
mutual
theorem SV.bd_mono {n m : Nat} (h : n ≤ m) : ∀ s : SV, s.bd n = true → s.bd m = true
  | .loc r _, hs => bd_mono_aux n m h r hs
  | .own r, hs => bd_mono_aux n m h r hs
  | .relt r _ _ _, hs => bd_mono_aux n m h r hs
  | .osub r _ _ _, hs => bd_mono_aux n m h r hs
  | .agg l, hs => bdL_mono h l hs
  | .tup l, hs => bdL_mono h l hs
  | .fn _ a c, hs => by
    simp only [SV.bd, Bool.and_eq_true] at *
    exact ⟨bdL_mono h a hs.1, bdL_mono h c hs.2⟩
  | .int _ _, _ => rfl
  | .bool _, _ => rfl
  | .nils, _ => rfl
  | .sl _ _ _, _ => rfl
  | .elt _, _ => rfl
  | .raw _, _ => rfl
  | .any, _ => rfl
  | .junk, _ => rfl
theorem bdL_mono {n m : Nat} (h : n ≤ m) : ∀ l : List SV, bdL n l = true → bdL m l = true
  | [], _ => rfl
  | s :: l, hs => by
    simp only [bdL, Bool.and_eq_true] at *
    exact ⟨SV.bd_mono h s hs.1, bdL_mono h l hs.2⟩
end
theorem bdE_mono {n m : Nat} (h : n ≤ m) : ∀ {es : List (Int × SV)}, bdE n es = true → bdE m es = true
  | [], _ => rfl
  | (_, s) :: es, hb => by
    simp only [bdE, Bool.and_eq_true] at *
    exact ⟨SV.bd_mono h s hb.1, bdE_mono h hb.2⟩
theorem Blk.bd_mono {n m : Nat} (h : n ≤ m) (B : Blk) (hb : B.bd n = true) : B.bd m = true := by
  cases B with
  | cells l E => exact bdL_mono h l hb
  | row z E xs => rfl
  | lp nb q => exact Nat.ble_eq_true_of_le (Nat.le_trans (Nat.le_of_ble_eq_true hb) h)
  | mp p k es =>
    simp only [Blk.bd, Bool.or_eq_true] at *
    exact hb.imp id (bdE_mono h)

theorem heap_old (w : World) (o : Obj) (b : Nat) (h : b < w.heap.size) : (w.alloc o).heap[b]? = w.heap[b]? := Go.heap_alloc_old w o h

theorem Inv.alloc {Γ : Gh} {ρ : Env} {nx : Nat} {mem : Mem} {w : World} (h : Inv Γ ρ nx mem w) (o : Obj) (v : Option Value) (B : Blk) (hB : BlkOk Γ (ρ.add nx (some w.heap.size) v) (w.alloc o) nx B) (hbd : B.bd (nx + 1) = true) :
    Inv Γ (ρ.add nx (some w.heap.size) v) (nx + 1) ((nx, B) :: mem) (w.alloc o) where
  pub b cs hb := by
    obtain ⟨E, fz, e⟩ := h.pub b cs hb
    exact ⟨E, fz, by rw [heap_old w o b (h.lt hb), e]⟩
  priv r C hC := by
    rw [fnd_cons] at hC
    split at hC
    · rename_i e; subst e; cases hC
      exact ⟨hB, Nat.lt_succ_self _, hbd⟩
    · obtain ⟨h1, h2, h3⟩ := h.priv r C hC
      exact ⟨h1.move (Gh.le_refl _) (ρ.add_same nx _ v) h2 h3 (fun b hb => ⟨heap_old w o b (h1.lt hb), id⟩), Nat.lt_succ_of_lt h2, C.bd_mono (Nat.le_succ _) h3⟩
  inj r r' b C C' hC hC' hb hb' := by
    rw [fnd_cons] at hC hC'
    split at hC <;> split at hC'
    · omega
    · rename_i e e'
      subst e
      obtain ⟨h1, h2, _⟩ := h.priv r' C' hC'
      rw [(ρ.add_same nx _ v r' h2).1] at hb'
      have := h1.lt hb'
      rw [Env.add_blk] at hb; cases hb; omega
    · rename_i e e'
      subst e'
      obtain ⟨h1, h2, _⟩ := h.priv r C hC
      rw [(ρ.add_same nx _ v r h2).1] at hb
      have := h1.lt hb
      rw [Env.add_blk] at hb'; cases hb'; omega
    · obtain ⟨h1, h2, _⟩ := h.priv r C hC
      obtain ⟨h1', h2', _⟩ := h.priv r' C' hC'
      rw [(ρ.add_same nx _ v r h2).1] at hb
      rw [(ρ.add_same nx _ v r' h2').1] at hb'
      exact h.inj r r' b C C' hC hC' hb hb'

theorem Stp.alloc {Γ : Gh} {ρ : Env} {nx : Nat} {mem : Mem} {w : World} (h : Inv Γ ρ nx mem w) (o : Obj) (v : Option Value) (B : Blk) :
    Stp ρ mem w (ρ.add nx (some w.heap.size) v) ((nx, B) :: mem) (w.alloc o) where
  os := rfl
  tape := rfl
  output := rfl
  size := by simp
  keep b hb _ := heap_old w o b hb
  own b := by
    rintro ⟨r, C, hC, hb⟩
    rw [fnd_cons] at hC
    split at hC
    · rename_i e; subst e
      rw [Env.add_blk] at hb; cases hb
      exact .inr (Nat.le_refl _)
    · obtain ⟨_, h2, _⟩ := h.priv r C hC
      rw [(ρ.add_same nx _ v r h2).1] at hb
      exact .inl ⟨r, C, hC, hb⟩

def MkOk (lo : Nat) (w : World) (ds : List Deferred) : Prop := lo ≤ w.heap.size ∧ ∃ bs : List Nat, ds = bs.map (fun b => ({ target := .collected b, args := #[] } : Deferred)) ∧ bs.Nodup ∧ ∀ b ∈ bs, lo ≤ b ∧ w.heap[b]? = some (.deferred (some []))
theorem MkOk.nil {lo : Nat} {w : World} (h : lo ≤ w.heap.size) : MkOk lo w [] := ⟨h, [], rfl, List.nodup_nil, fun _ h => by cases h⟩
theorem Inv.not_owned {Γ : Gh} {ρ : Env} {nx : Nat} {mem : Mem} {w : World} (hi : Inv Γ ρ nx mem w) {b : Nat} {d : Option (List Deferred)} (h : w.heap[b]? = some (.deferred d)) : ¬ Owned ρ mem b := by
  rintro ⟨r, B, hB, hb⟩
  obtain ⟨h1, _, _⟩ := hi.priv r B hB
  cases B with
  | cells l E => obtain ⟨b', arr, g1, g2, _⟩ := h1; rw [hb] at g1; cases g1; rw [h] at g2; cases g2
  | row z E xs =>
    obtain ⟨v, _, g⟩ := h1
    rcases g with ⟨_, _, g⟩ | ⟨b', arr, cap, g1, _, g2, _⟩
    · rw [hb] at g; cases g
    · rw [hb] at g1; cases g1; rw [h] at g2; cases g2
  | lp nb q => obtain ⟨g1, _, tmps, dfr, g2, _⟩ := h1; rw [hb] at g1; cases g1; rw [h] at g2; cases g2
  | mp p k es => obtain ⟨b', arr, clock, g1, _, g2, _⟩ := h1; rw [hb] at g1; cases g1; rw [h] at g2; cases g2
theorem MkOk.step {Γ Γ' : Gh} {ρ ρ' : Env} {nx : Nat} {mem mem' : Mem} {w w' : World} {ds : List Deferred} (h : MkOk Γ.lo w ds) (hi : Inv Γ ρ nx mem w) (hs : Stp ρ mem w ρ' mem' w') (hl : Γ.le Γ') : MkOk Γ'.lo w' ds := by
  obtain ⟨h0, bs, h1, h2, h3⟩ := h
  refine ⟨by rw [hl.2]; exact Nat.le_trans h0 hs.size, bs, h1, h2, fun b hb => ?_⟩
  obtain ⟨h4, h5⟩ := h3 b hb
  exact ⟨by rw [hl.2]; exact h4, by rw [hs.keep b (Array.getElem?_eq_some_iff.1 h5).1 (hi.not_owned h5), h5]⟩

theorem FrDen.grow {Γ Γ' : Gh} {ρ ρ' : Env} {nx nx' N : Nat} {fr : Fr} {a : Act} (h : FrDen Γ ρ nx N fr a) (hΓ : Γ.le Γ') (hs : Env.same nx ρ ρ') (hn : nx ≤ nx') : FrDen Γ' ρ' nx' N fr a :=
  ⟨h.size, fun d s hd => ⟨Den.ext hΓ s _ hs (h.slot d s hd).2 (h.slot d s hd).1, SV.bd_mono hn s (h.slot d s hd).2⟩⟩

theorem FrDen.put {Γ : Gh} {ρ : Env} {nx N : Nat} {fr : Fr} {a : Act} (h : FrDen Γ ρ nx N fr a) (d : Nat) (hd : d < N) (s : SV) (v : Value) (hv : Den Γ ρ s v) (hb : s.bd nx = true) : FrDen Γ ρ nx N ((d, s) :: fr) (a.put (some d) v) where
  size := by simp [Act.put, h.size]
  slot d' s' hs := by
    rw [fnd_cons] at hs
    have hz : d < a.tmps.size := by rw [h.size]; exact hd
    split at hs
    · rename_i e; subst e; cases hs
      simp [Act.put, hz, hv, hb]
    · rename_i e
      have := h.slot d' s' hs
      simpa [Act.put, Array.getElem?_setIfInBounds, e] using this

end Go.Proofs.Ytjchmajamlehmaa.X
