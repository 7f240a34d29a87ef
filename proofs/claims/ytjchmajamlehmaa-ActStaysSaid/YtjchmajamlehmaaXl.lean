/- append: onto a row of one's own, onto nil, onto a shared slice without spare room; from whatever slice. -/
import Derived.Test.YtjchmajamlehmaaXi
import Derived.Deep.AppendSrc
namespace Go.Proofs.Ytjchmajamlehmaa.X
open Go Go.RowKit

def del : Mem → Nat → Mem
  | [], _ => []
  | (k, v) :: l, n => match Nat.beq k n with
    | true => del l n
    | false => (k, v) :: del l n
theorem fnd_del (l : Mem) (n m : Nat) : fnd (del l n) m = if m = n then none else fnd l m := by
  induction l with
  | nil => simp [del, fnd]
  | cons p l ih =>
    obtain ⟨k, v⟩ := p
    simp only [del]
    split
    · rename_i h
      have hk : k = n := Nat.eq_of_beq_eq_true h
      rw [ih, fnd_cons]
      by_cases hm : m = n
      · simp [hm]
      · rw [if_neg hm, if_neg hm, if_neg (fun e => hm (by omega))]
    · rename_i h
      have hk : k ≠ n := fun e => by subst e; simp at h
      rw [fnd_cons, fnd_cons, ih]
      by_cases hm : m = n
      · subst hm; simp [hk]
      · by_cases hkm : k = m
        · simp [hkm, hm]
        · simp [hkm, hm]

def ElemOk (s : SV) : Prop := (cellsOf s).isSome = true

theorem DenE.take_len {Γ : Gh} {z : Nat} : ∀ {xs : List SV} {cs : List Value}, DenE Γ z xs cs → DenE Γ z xs (cs.take (xs.length * z))
  | [], _, _ => by simp [DenE]
  | x :: xs, cs, h => by
    simp only [DenE] at h ⊢
    obtain ⟨⟨v, h1, h2, h3⟩, h4⟩ := h
    have e : (x :: xs).length * z = z + xs.length * z := by simp only [List.length_cons, Nat.add_mul]; omega
    rw [e]
    refine ⟨⟨v, h1, h2, ?_⟩, ?_⟩
    · rw [h3, List.take_take, Nat.min_eq_left (by omega)]
    · rw [List.drop_take]
      have := DenE.take_len h4
      rwa [show z + xs.length * z - z = xs.length * z by omega]

theorem DenE.append {Γ : Gh} {z : Nat} : ∀ {xs ys : List SV} {cs ds : List Value}, DenE Γ z xs cs → cs.length = xs.length * z → DenE Γ z ys ds → DenE Γ z (xs ++ ys) (cs ++ ds)
  | [], ys, cs, ds, _, hl, h => by
    have : cs = [] := List.eq_nil_of_length_eq_zero (by simpa using hl)
    subst this; simpa using h
  | x :: xs, ys, cs, ds, h, hl, h' => by
    simp only [DenE, List.cons_append] at h ⊢
    obtain ⟨⟨v, h1, h2, h3⟩, h4⟩ := h
    have e : cs.length = z + xs.length * z := by rw [hl]; simp only [List.length_cons, Nat.add_mul]; omega
    refine ⟨⟨v, h1, h2, ?_⟩, ?_⟩
    · rw [List.take_append_of_le_length (by omega)]; exact h3
    · rw [List.drop_append_of_le_length (by omega)]
      exact DenE.append h4 (by simp; omega) h'

theorem DenE.one {Γ : Gh} {z : Nat} : ∀ {xs : List SV} {cs : List Value}, DenE Γ z xs cs → (∀ x ∈ xs, ElemOk x) → ∀ c ∈ cs.take (xs.length * z), c.oneCell' = true
  | [], cs, _, _, c, hc => by simp at hc
  | x :: xs, cs, h, ho, c, hc => by
    simp only [DenE] at h
    obtain ⟨⟨v, h1, h2, h3⟩, h4⟩ := h
    have e : (x :: xs).length * z = z + xs.length * z := by simp only [List.length_cons, Nat.add_mul]; omega
    rw [e, List.take_add, List.mem_append] at hc
    rcases hc with hc | hc
    · rw [← h3] at hc
      obtain ⟨n, hn⟩ := Option.isSome_iff_exists.1 (ho x (by simp))
      exact (cellsOf_den (n := 0) hn h1 (h1.nil_bd 0)).2.1 c hc
    · exact DenE.one h4 (fun y hy => ho y (by simp [hy])) c hc

section
variable {P : Program} {T : Tab} {N : Nat} {fr : Fr} {mem : Mem} {nx : Nat} {o : Oper}

def srcOf (fr : Fr) (mem : Mem) (z : Nat) (y : Operand) : Option (List SV × Option Nat × Prop) :=
  match evo fr y with
  | .nils => some ([], none, True)
  | .sl _ z' ys => match Nat.beq z' z with
    | true => some (ys, none, ∀ y ∈ ys, ElemOk y)
    | false => none
  | .own r => match fnd mem r with
    | some (.row z' _ ys) => match Nat.beq z' z with
      | true => some (ys, some r, True)
      | false => none
    | _ => none
  | _ => none

theorem srcOf_sound (hT : TabOk P T) {z t2 : Nat} {ti : TI} {e2 : Nat} (hz1 : 1 ≤ z) (ht2 : fnd T t2 = some ti) (hd2 : ti.d = .slice e2) {y : Operand} {ys : List SV} {rr : Option Nat} {k : Prop} (h : srcOf fr mem z y = some (ys, rr, k)) (hk : k) {Γ : Gh} {ρ : Env} {w : World} {a : Act} (hi : Inv Γ ρ nx mem w) (hf : FrDen Γ ρ nx N fr a) :
    ∃ news : List Value, Src P z t2 (a.eval y) ys.length news w ∧ DenE Γ z ys news ∧ news.length = ys.length * z ∧ (∀ c ∈ news, c.oneCell' = true) := by
  have hdesc := (hT t2 ti ht2).desc
  rw [hd2] at hdesc; simp only [DescOk] at hdesc
  have g := (evo_den hf y).1
  unfold srcOf at h
  split at h
  · rename_i hy
    simp only [Option.some.injEq, Prod.mk.injEq] at h
    obtain ⟨rfl, rfl, rfl⟩ := h
    rw [hy] at g; simp only [Den] at g
    rw [g]
    exact ⟨[], Src.ofNil w hdesc 0, by simp [DenE], by simp, by simp⟩
  · rename_i x z' ys' hy
    split at h
    · rename_i hz
      have hz : z' = z := Nat.eq_of_beq_eq_true hz
      subst hz
      simp only [Option.some.injEq, Prod.mk.injEq] at h
      obtain ⟨rfl, rfl, rfl⟩ := h
      rw [hy] at g; simp only [Den] at g
      rcases g with ⟨ad, g1, g2⟩ | ⟨b, off, cap, cs, g1, g2, _, g3, g4, g5⟩
      · subst g2; rw [g1]
        cases ad with
        | none => exact ⟨[], Src.ofNil w hdesc 0, by simp [DenE], by simp, by simp⟩
        | some ad => exact ⟨[], Src.ofSlice w hdesc ad 0 0 [] (by simp) (fun j u hj => by simp at hj) (by simp), by simp [DenE], by simp, by simp⟩
      · obtain ⟨E, fz, hb⟩ := hi.pub b cs g3
        have hlen : ys'.length * z' ≤ (cs.drop off).length := g5.len
        refine ⟨(cs.drop off).take (ys'.length * z'), ?_, g5.take_len, by simp at hlen ⊢; omega, g5.one hk⟩
        rw [g1]
        refine Src.ofSlice w hdesc ⟨b, off, none⟩ ys'.length cap _ (by simp at hlen ⊢; omega) (fun j u hj => ?_) (g5.one hk)
        rw [add_addr, cell_of_row w b (off + j) cs.toArray E fz hb]
        have hjl : j < ys'.length * z' := by
          have := (List.getElem?_eq_some_iff.1 hj).1
          simp at this; omega
        rw [List.getElem?_take_of_lt hjl, List.getElem?_drop] at hj
        simpa using hj
    · cases h
  · rename_i r hy
    split at h
    · rename_i z' E ys' hm
      split at h
      · rename_i hz
        have hz : z' = z := Nat.eq_of_beq_eq_true hz
        subst hz
        simp only [Option.some.injEq, Prod.mk.injEq] at h
        obtain ⟨rfl, rfl, rfl⟩ := h
        rw [hy] at g; simp only [Den] at g
        obtain ⟨⟨v, hv, q⟩, _, _⟩ := hi.priv r _ hm
        rw [g.1] at hv; cases hv
        rcases q with ⟨q1, q2, _⟩ | ⟨b, arr, cap, q1, q2, q3, q4, q5, q6, q7, _⟩
        · subst q2; rw [q1]
          exact ⟨[], Src.ofNil w hdesc 0, by simp [DenE], by simp, by simp⟩
        · have hcap : ys'.length * z' ≤ arr.size := by rw [q5]; exact Nat.mul_le_mul_right _ q4
          have hone : ∀ c ∈ arr.toList.take (ys'.length * z'), c.oneCell' = true := fun c hc => q7 c (List.mem_of_mem_take hc)
          refine ⟨arr.toList.take (ys'.length * z'), ?_, q6.take_len, by simp; omega, hone⟩
          rw [q2]
          refine Src.ofSlice w hdesc ⟨b, 0, none⟩ ys'.length cap _ (by simp; omega) (fun j u hj => ?_) hone
          rw [add_addr, cell_of_row w b (0 + j) arr E _ q3]
          have hjl : j < ys'.length * z' := by
            have := (List.getElem?_eq_some_iff.1 hj).1
            simp at this; omega
          rw [List.getElem?_take_of_lt hjl] at hj
          simpa using hj
      · cases h
    · cases h
  · cases h

def ontoOf (fr : Fr) (mem : Mem) (z e : Nat) (x : Operand) : Option (List SV × Option Nat × Bool) :=
  match evo fr x with
  | .nils => some ([], none, false)
  | .sl true z' xs => match Nat.beq z' z with
    | true => some (xs, none, true)
    | false => none
  | .own r => match fnd mem r with
    | some (.row z' E xs) => match Nat.beq z' z, Nat.beq E e with
      | true, true => some (xs, some r, false)
      | _, _ => none
    | _ => none
  | _ => none

def optNe (a b : Option Nat) : Bool := match a, b with
  | some x, some y => match Nat.beq x y with
    | true => false
    | false => true
  | _, _ => true

def xappend (T : Tab) (fr : Fr) (mem : Mem) (nx : Nat) (t t2 : Nat) (x y : Operand) : R :=
  match fnd T t, fnd T t2 with
  | some ti, some ti2 => match ti.d, ti2.d with
    | .slice e, .slice _ => match fnd T e with
      | some ei => match Nat.ble 1 ei.cells, ontoOf fr mem ei.cells e x, srcOf fr mem ei.cells y with
        | true, some (xs, r, ex), some (ys, r2, k) => match optNe r r2 with
          | true => some (.own nx, (nx, .row ei.cells e (xs ++ ys)) :: (match r with | some r => del mem r | none => mem), nx + 1,
              k ∧ (ex = true → 1 ≤ ys.length ∧ ∀ x ∈ xs, ElemOk x) ∧ (xs.length + ys.length) * ei.bytes ≤ 140737488355328 ∧ xs.length + ys.length ≤ 4611686018427387904)
          | false => none
        | _, _, _ => none
      | none => none
    | _, _ => none
  | _, _ => none

theorem Inv.del {Γ : Gh} {ρ : Env} {mem : Mem} {w : World} (h : Inv Γ ρ nx mem w) (r : Nat) : Inv Γ ρ nx (del mem r) w where
  pub := h.pub
  priv r' B hB := by
    rw [fnd_del] at hB
    split at hB
    · cases hB
    · exact h.priv r' B hB
  inj r1 r2 b B B' h1 h2 := by
    rw [fnd_del] at h1 h2
    split at h1 <;> split at h2 <;> first | (cases h1; done) | (cases h2; done) | exact h.inj r1 r2 b B B' h1 h2

theorem Stp.del {ρ : Env} {mem : Mem} {w : World} (r : Nat) : Stp ρ mem w ρ (X.del mem r) w :=
  ⟨rfl, rfl, rfl, Nat.le_refl _, fun _ _ _ => rfl, fun b ⟨r', B, h1, h2⟩ => .inl (by
    rw [fnd_del] at h1
    split at h1
    · cases h1
    · exact ⟨r', B, h1, h2⟩)⟩

theorem zeroCells_one {zc : Array Value} (h : ∀ c ∈ zc.toList, c.oneCell' = true) (n : Nat) : ∀ c ∈ (Builtin.zeroCells zc n).toList, c.oneCell' = true := by
  intro c hc
  simp only [Builtin.zeroCells, Array.toList_map, Array.toList_range, List.mem_map, List.mem_range] at hc
  obtain ⟨i, hi, rfl⟩ := hc
  have hz : 0 < zc.size := by
    rcases Nat.eq_zero_or_pos zc.size with h0 | h0
    · rw [h0] at hi; simp at hi
    · exact h0
  have hlt := Nat.mod_lt i hz
  simp only [getElem!_pos zc (i % zc.size) hlt]
  exact h _ (by simp)

def Leaves (P : Program) (o : Oper) (nx : Nat) (mem : Mem) (Γ : Gh) (ρ : Env) (w : World) (a : Act) (sv : SV) (mem' : Mem) (nx' : Nat) : Prop :=
  ∃ v r Γ' ρ' w', (execOp a.eval o).run P w = .ok r w' ∧ (r = .value v ∨ r = .skip ∧ v = undef) ∧
    Den Γ' ρ' sv v ∧ sv.bd nx' = true ∧ Inv Γ' ρ' nx' mem' w' ∧ Env.same nx ρ ρ' ∧ nx ≤ nx' ∧ Stp ρ mem w ρ' mem' w' ∧ Γ.le Γ' ∧ ∀ b, Γ' b ≠ none → Γ b ≠ none ∨ Owned ρ mem b ∨ w.heap.size ≤ b

theorem leaves_new {Γ : Gh} {ρ : Env} {w : World} {a : Act} {mem1 : Mem} (hi : Inv Γ ρ nx mem1 w) (hst : Stp ρ mem w ρ mem1 w) {z E cap : Nat} {xs : List SV} {arr : Array Value}
    (hrun : (execOp a.eval o).run P w = .ok (.value (.slice (some ⟨w.heap.size, 0, none⟩) xs.length cap)) (w.drew.alloc (.cells arr E))) (hcap : xs.length ≤ cap) (hsz : arr.size = cap * z) (hE : DenE Γ z xs arr.toList) (hone : ∀ c ∈ arr.toList, c.oneCell' = true) :
    Leaves P o nx mem Γ ρ w a (.own nx) ((nx, .row z E xs) :: mem1) (nx + 1) := by
  have hid : Inv Γ ρ nx mem1 w.drew := ⟨hi.pub, hi.priv, hi.inj⟩
  refine ⟨.slice (some ⟨w.heap.size, 0, none⟩) xs.length cap, _, Γ, ρ.add nx (some w.drew.heap.size) (some (.slice (some ⟨w.heap.size, 0, none⟩) xs.length cap)), w.drew.alloc (.cells arr E), hrun, .inl rfl, ?_, by simp [SV.bd], hid.alloc _ _ (.row z E xs) ?_ rfl, Env.add_same _ _ _ _, Nat.le_succ _, ?_, Gh.le_refl _, fun _ hb => .inl hb⟩
  · simp only [Den]; exact ⟨Env.add_val _ _ _ _, rfl⟩
  · refine ⟨_, Env.add_val _ _ _ _, .inr ⟨w.heap.size, arr, cap, Env.add_blk _ _ _ _, rfl, heap_alloc_new _ _, hcap, hsz, hE, hone, ?_⟩⟩
    cases hq : Γ w.heap.size with
    | none => rfl
    | some cs' => exact absurd (hi.lt hq) (Nat.lt_irrefl _)
  · refine hst.trans ?_
    have := Stp.alloc (mem := mem1) hid (.cells arr E) (some (.slice (some ⟨w.heap.size, 0, none⟩) xs.length cap)) (.row z E xs)
    exact ⟨this.os, this.tape, this.output, this.size, this.keep, this.own⟩

theorem leaves_same {Γ : Gh} {ρ : Env} {w w' : World} {a : Act} {mem1 : Mem} (hi : Inv Γ ρ nx mem1 w) (hst : Stp ρ mem w ρ mem1 w) {b : Nat} (hown : Owned ρ mem b) (hno : ¬ Owned ρ mem1 b) (hΓ : Γ b = none) {z E cap : Nat} {xs : List SV} {arr : Array Value}
    (hrun : (execOp a.eval o).run P w = .ok (.value (.slice (some ⟨b, 0, none⟩) xs.length cap)) w') (hos : w'.os = w.os) (ht : w'.tape = w.tape) (hou : w'.output = w.output) (hs : w'.heap.size = w.heap.size) (hother : ∀ k, k ≠ b → w'.heap[k]? = w.heap[k]?)
    (hb : w'.heap[b]? = some (.cells arr E (0, 0))) (hcap : xs.length ≤ cap) (hsz : arr.size = cap * z) (hE : DenE Γ z xs arr.toList) (hone : ∀ c ∈ arr.toList, c.oneCell' = true) :
    Leaves P o nx mem Γ ρ w a (.own nx) ((nx, .row z E xs) :: mem1) (nx + 1) := by
  refine ⟨.slice (some ⟨b, 0, none⟩) xs.length cap, _, Γ, ρ.add nx (some b) (some (.slice (some ⟨b, 0, none⟩) xs.length cap)), w', hrun, .inl rfl, ?_, by simp [SV.bd], ⟨?_, ?_, ?_⟩, Env.add_same _ _ _ _, Nat.le_succ _, ?_, Gh.le_refl _, fun _ hb => .inl hb⟩
  · simp only [Den]; exact ⟨Env.add_val _ _ _ _, rfl⟩
  · intro c cs hc
    obtain ⟨E', fz, e⟩ := hi.pub c cs hc
    exact ⟨E', fz, by rw [hother c (fun e => by subst e; rw [hΓ] at hc; cases hc), e]⟩
  · intro r B hB
    rw [fnd_cons] at hB
    split at hB
    · rename_i e; subst e; cases hB
      exact ⟨⟨_, Env.add_val _ _ _ _, .inr ⟨b, arr, cap, Env.add_blk _ _ _ _, rfl, hb, hcap, hsz, hE, hone, hΓ⟩⟩, Nat.lt_succ_self _, rfl⟩
    · obtain ⟨h1, h2, h3⟩ := hi.priv r B hB
      exact ⟨h1.move (Gh.le_refl _) (Env.add_same _ _ _ _) h2 h3 (fun c hc => ⟨hother c (fun e => hno ⟨r, B, hB, e ▸ hc⟩), id⟩), Nat.lt_succ_of_lt h2, B.bd_mono (Nat.le_succ _) h3⟩
  · intro r r' c B B' hB hB' hc hc'
    rw [fnd_cons] at hB hB'
    split at hB <;> split at hB'
    · omega
    · rename_i e e'
      subst e
      rw [(Env.add_same ρ nx _ _ r' (hi.priv r' B' hB').2.1).1] at hc'
      rw [Env.add_blk] at hc; cases hc
      exact absurd ⟨r', B', hB', hc'⟩ hno
    · rename_i e e'
      subst e'
      rw [(Env.add_same ρ nx _ _ r (hi.priv r B hB).2.1).1] at hc
      rw [Env.add_blk] at hc'; cases hc'
      exact absurd ⟨r, B, hB, hc⟩ hno
    · rw [(Env.add_same ρ nx _ _ r (hi.priv r B hB).2.1).1] at hc
      rw [(Env.add_same ρ nx _ _ r' (hi.priv r' B' hB').2.1).1] at hc'
      exact hi.inj r r' c B B' hB hB' hc hc'
  · refine ⟨hos, ht, hou, by omega, fun c _ hc => hother c (fun e => hc (e ▸ hown)), ?_⟩
    rintro c ⟨r, B, hB, hc⟩
    rw [fnd_cons] at hB
    split at hB
    · rename_i e; subst e
      rw [Env.add_blk] at hc; cases hc
      exact .inl hown
    · rw [(Env.add_same ρ nx _ _ r (hi.priv r B hB).2.1).1] at hc
      exact hst.own c ⟨r, B, hB, hc⟩

theorem leaves_nil {Γ : Gh} {ρ : Env} {w : World} {a : Act} {mem1 : Mem} (hi : Inv Γ ρ nx mem1 w) (hst : Stp ρ mem w ρ mem1 w) {z E : Nat} (hrun : (execOp a.eval o).run P w = .ok (.value (.slice none 0 0)) w) :
    Leaves P o nx mem Γ ρ w a (.own nx) ((nx, .row z E []) :: mem1) (nx + 1) := by
  refine ⟨.slice none 0 0, _, Γ, ρ.add nx none (some (.slice none 0 0)), w, hrun, .inl rfl, ?_, by simp [SV.bd], ⟨hi.pub, ?_, ?_⟩, Env.add_same _ _ _ _, Nat.le_succ _, ?_, Gh.le_refl _, fun _ hb => .inl hb⟩
  · simp only [Den]; exact ⟨Env.add_val _ _ _ _, rfl⟩
  · intro r B hB
    rw [fnd_cons] at hB
    split at hB
    · rename_i e; subst e; cases hB
      exact ⟨⟨_, Env.add_val _ _ _ _, .inl ⟨rfl, rfl, Env.add_blk _ _ _ _⟩⟩, Nat.lt_succ_self _, rfl⟩
    · obtain ⟨h1, h2, h3⟩ := hi.priv r B hB
      exact ⟨h1.move (Gh.le_refl _) (Env.add_same _ _ _ _) h2 h3 (fun c hc => ⟨rfl, id⟩), Nat.lt_succ_of_lt h2, B.bd_mono (Nat.le_succ _) h3⟩
  · intro r r' c B B' hB hB' hc hc'
    rw [fnd_cons] at hB hB'
    split at hB <;> split at hB'
    · omega
    · rename_i e e'; subst e; rw [Env.add_blk] at hc; cases hc
    · rename_i e e'; subst e'; rw [Env.add_blk] at hc'; cases hc'
    · rw [(Env.add_same ρ nx _ _ r (hi.priv r B hB).2.1).1] at hc
      rw [(Env.add_same ρ nx _ _ r' (hi.priv r' B' hB').2.1).1] at hc'
      exact hi.inj r r' c B B' hB hB' hc hc'
  · refine hst.trans ⟨rfl, rfl, rfl, Nat.le_refl _, fun _ _ _ => rfl, ?_⟩
    rintro c ⟨r, B, hB, hc⟩
    rw [fnd_cons] at hB
    split at hB
    · rename_i e; subst e; rw [Env.add_blk] at hc; cases hc
    · rw [(Env.add_same ρ nx _ _ r (hi.priv r B hB).2.1).1] at hc
      exact .inl ⟨r, B, hB, hc⟩

theorem ok_append (hT : TabOk P T) {t t2 : Nat} {x y : Operand} (ho : o.op = .call { callee := .builtin .append, args := #[x, y], argTypes := #[t, t2] }) {sv : SV} {mem' : Mem} {nx' : Nat} {k : Prop} (h : xappend T fr mem nx t t2 x y = some (sv, mem', nx', k)) (hk : k) : OpOk P N fr mem nx o sv mem' nx' := by
  unfold xappend at h
  split at h
  · rename_i ti ti2 hti hti2
    split at h
    · rename_i e e2 hd hd2
      have hdesc := (hT t ti hti).desc
      rw [hd] at hdesc; simp only [DescOk] at hdesc
      split at h
      · rename_i ei hei
        split at h
        · rename_i xs r ex ys r2 k' hz1 honto hsrc
          split at h
          · rename_i hne
            simp only [Option.some.injEq, Prod.mk.injEq] at h
            obtain ⟨rfl, rfl, rfl, rfl⟩ := h
            obtain ⟨hk1, hk2, hk3, hk4⟩ := hk
            have hz1 : 1 ≤ ei.cells := Nat.le_of_ble_eq_true hz1
            intro Γ ρ w a hi hf
            show Leaves P o nx mem Γ ρ w a _ _ _
            obtain ⟨news, hs, hE, hnl, hone⟩ := srcOf_sound hT hz1 hti2 hd2 hsrc hk1 hi hf
            obtain ⟨inf, hinf, hsz, hby, hie⟩ := (hT e ei hei).typeInfo
            obtain ⟨zv, hzv, hzc⟩ := (hT e ei hei).zeroValue
            obtain ⟨zd, zo, _, _⟩ := consts_den (Γ := Γ) (ρ := Env.nil) (n := 0) hzc
            have hzs : zv.cells.size = ei.cells := by
              have h1 := zd.length
              have h2 := (hT e ei hei).zlen
              simp at h1; omega
            have hzero : inf.zero = some zv := by
              have h1 := hzv w
              have h2 := hinf w
              simp only [zeroValue, Sem.run_bind, h2, Result.andThen_ok] at h1
              cases hq : inf.zero with
              | none => simp [hq] at h1
              | some u => simp [hq] at h1; rw [h1]
            have hsz' : inf.size = ei.cells := hsz
            have hs' : Src P inf.size t2 (a.eval y) ys.length news w := by rw [hsz']; exact hs
            have hexec : ∀ (v u : Value) (w' : World), a.eval x = u → (Builtin.append_ #[t, t2] o.type #[u, a.eval y]).run P w = .ok v w' → (execOp a.eval o).run P w = .ok (.value v) w' := by
              intro v u w' hu hr
              simp only [execOp, ho, resolve, invoke, builtin, Sem.run_bind, Sem.run_pure, Result.andThen_ok]
              have hx2 : (#[x, y].map a.eval) = #[u, a.eval y] := by simp [hu]
              rw [hx2, hr]
              rfl
            have hnlen : (xs ++ ys).length = xs.length + ys.length := by simp
            -- a new block, by growth
            have grow : ∀ (base : Option Addr) (cap : Nat) (olds : List Value), a.eval x = .slice base xs.length cap → (Builtin.firstCells inf.size xs.length (.slice base xs.length cap)).run P w.drew = .ok olds.toArray w.drew →
                DenE Γ ei.cells xs olds → olds.length = xs.length * ei.cells → (∀ c ∈ olds, c.oneCell' = true) → cap < xs.length + ys.length →
                ∀ mem1, Inv Γ ρ nx mem1 w → Stp ρ mem w ρ mem1 w → Leaves P o nx mem Γ ρ w a (.own nx) ((nx, .row ei.cells e (xs ++ ys)) :: mem1) (nx + 1) := by
              intro base cap olds hx hold hEo hlo hoo hcap mem1 hi1 hst1
              have hrun := run_append_grow_src w t t2 o.type e inf zv hdesc hie hzero base xs.length cap olds hold (a.eval y) ys.length news hs' hcap (by omega) (growslice_fits hcap (by rw [hby]; exact hk3))
              generalize hcapv : grownCap w (xs.length + ys.length) cap e = c1 at hrun
              have hge : xs.length + ys.length ≤ c1 := by rw [← hcapv]; exact grownCap_ge _ _ _ _
              have harr : ((olds ++ news).toArray ++ Builtin.zeroCells zv.cells (c1 - (xs.length + ys.length))).toList = olds ++ (news ++ (Builtin.zeroCells zv.cells (c1 - (xs.length + ys.length))).toList) := by simp
              refine leaves_new (cap := c1) hi1 hst1 (hexec _ _ _ hx (by rw [hnlen]; exact hrun)) (by omega) ?_ ?_ ?_
              · simp [Builtin.zeroCells, hlo, hnl, hzs]
                have : (c1 - (xs.length + ys.length)) * ei.cells + (xs.length + ys.length) * ei.cells = c1 * ei.cells := by
                  rw [← Nat.add_mul]; congr 1; omega
                rw [Nat.add_mul] at this; omega
              · rw [harr]
                refine hEo.append hlo ?_
                have h2 := hE.append hnl (ys := []) (ds := (Builtin.zeroCells zv.cells (c1 - (xs.length + ys.length))).toList) (by simp [DenE])
                simpa using h2
              · intro c hc
                rw [harr] at hc
                simp only [List.mem_append] at hc
                rcases hc with hc | hc | hc
                · exact hoo c hc
                · exact hone c hc
                · exact zeroCells_one zo _ c hc
            unfold ontoOf at honto
            split at honto
            · rename_i hx
              simp only [Option.some.injEq, Prod.mk.injEq] at honto
              obtain ⟨rfl, rfl, rfl⟩ := honto
              have g := (evo_den hf x).1
              rw [hx] at g; simp only [Den] at g
              by_cases h0 : ys.length = 0
              · have : ys = [] := List.eq_nil_of_length_eq_zero h0
                subst this
                refine leaves_nil hi (Stp.refl _ _ _) (hexec _ _ _ g ?_)
                have hcl := hs'.cells
                simp only [List.length_nil] at hcl
                rcases hs.kind with ⟨e', hk'⟩ | hk' <;> simp [Builtin.append_, run_underlying hdesc, run_underlying hk', sizeOf, typeInfo, hie, hs.len, hcl]
              · exact grow none 0 [] g (run_firstCells_none w.drew _ _ _ _) (by simp [DenE]) (by simp) (by simp) (by simp; omega) mem hi (Stp.refl _ _ _)
            · rename_i z' xs' hx
              split at honto
              · rename_i hz
                have hz : z' = ei.cells := Nat.eq_of_beq_eq_true hz
                subst hz
                simp only [Option.some.injEq, Prod.mk.injEq] at honto
                obtain ⟨rfl, rfl, rfl⟩ := honto
                obtain ⟨hy1, hxo⟩ := hk2 rfl
                have g := (evo_den hf x).1
                rw [hx] at g; simp only [Den] at g
                rcases g with ⟨ad, g1, g2⟩ | ⟨b, off, cap, cs, g1, g2, gx, g3, g4, g5⟩
                · subst g2
                  cases ad with
                  | none => exact grow none 0 [] g1 (run_firstCells_none w.drew _ _ _ _) (by simp [DenE]) (by simp) (by simp) (by simp; omega) mem hi (Stp.refl _ _ _)
                  | some ad => exact grow (some ad) 0 [] g1 (run_firstCells_some w.drew _ _ _ _ _ _ (by simp) (fun j u hj => by simp at hj)) (by simp [DenE]) (by simp) (by simp) (by simp; omega) mem hi (Stp.refl _ _ _)
                · have hcapx := gx trivial
                  obtain ⟨E, fz, hb⟩ := hi.pub b cs g3
                  have hlen : xs'.length * ei.cells ≤ (cs.drop off).length := g5.len
                  refine grow (some ⟨b, off, none⟩) cap ((cs.drop off).take (xs'.length * ei.cells)) g1 ?_ g5.take_len (by simp at hlen ⊢; omega) (g5.one hxo) (by omega) mem hi (Stp.refl _ _ _)
                  refine run_firstCells_some w.drew _ _ _ _ _ _ (by rw [hsz']; simp at hlen ⊢; omega) (fun j u hj => ?_)
                  rw [add_addr, World.cell?_drew, cell_of_row w b (off + j) cs.toArray E fz hb]
                  have hjl : j < xs'.length * ei.cells := by
                    have := (List.getElem?_eq_some_iff.1 hj).1
                    simp at this; omega
                  rw [List.getElem?_take_of_lt hjl, List.getElem?_drop] at hj
                  simpa using hj
              · cases honto
            · rename_i rr hx
              split at honto
              · rename_i z' E xs' hm
                split at honto
                · rename_i hz hEe
                  have hz : z' = ei.cells := Nat.eq_of_beq_eq_true hz
                  have hEe : E = e := Nat.eq_of_beq_eq_true hEe
                  subst hz hEe
                  simp only [Option.some.injEq, Prod.mk.injEq] at honto
                  obtain ⟨rfl, rfl, rfl⟩ := honto
                  have g := (evo_den hf x).1
                  rw [hx] at g; simp only [Den] at g
                  obtain ⟨⟨v, hv, q⟩, hlt, _⟩ := hi.priv rr _ hm
                  rw [g.1] at hv; cases hv
                  have hid := hi.del rr
                  have hsd := Stp.del (ρ := ρ) (mem := mem) (w := w) rr
                  rcases q with ⟨q1, q2, q3⟩ | ⟨b, arr, cap, q1, q2, q3, q4, q5, q6, q7, q8⟩
                  · subst q2
                    by_cases h0 : ys.length = 0
                    · have : ys = [] := List.eq_nil_of_length_eq_zero h0
                      subst this
                      refine leaves_nil hid hsd (hexec _ _ _ q1 ?_)
                      have hcl := hs'.cells
                      simp only [List.length_nil] at hcl
                      rcases hs.kind with ⟨e', hk'⟩ | hk' <;> simp [Builtin.append_, run_underlying hdesc, run_underlying hk', sizeOf, typeInfo, hie, hs.len, hcl]
                    · exact grow none 0 [] q1 (run_firstCells_none w.drew _ _ _ _) (by simp [DenE]) (by simp) (by simp) (by simp; omega) _ hid hsd
                  · have hcapz : xs'.length * ei.cells ≤ arr.size := by rw [q5]; exact Nat.mul_le_mul_right _ q4
                    by_cases hroom : xs'.length + ys.length ≤ cap
                    · have hfit : xs'.length * ei.cells + news.length ≤ arr.size := by
                        rw [hnl, q5, ← Nat.add_mul]; exact Nat.mul_le_mul_right _ hroom
                      have hst := run_storeCells_at (P := P) b (xs'.length * ei.cells) E news 0 arr w q3 (by simpa using hfit) hone
                      simp only [Nat.add_zero] at hst
                      have hrun : (Builtin.append_ #[t, t2] o.type #[.slice (some ⟨b, 0, none⟩) xs'.length cap, a.eval y]).run P w = .ok (.slice (some ⟨b, 0, none⟩) (xs'.length + ys.length) cap) (w.setRow b (arr.toList.take (xs'.length * ei.cells) ++ news ++ arr.toList.drop (xs'.length * ei.cells + news.length)).toArray) := by
                        have hcl := hs.cells
                        rw [List.append_assoc] at hst ⊢
                        rcases hs.kind with ⟨e', hk'⟩ | hk' <;> simp [Builtin.append_, run_underlying hdesc, run_underlying hk', sizeOf, typeInfo, hie, hs.len, hroom, hcl, hsz', add_addr, hst]
                      refine leaves_same (cap := cap) (w' := w.setRow b (arr.toList.take (xs'.length * ei.cells) ++ news ++ arr.toList.drop (xs'.length * ei.cells + news.length)).toArray) (arr := (arr.toList.take (xs'.length * ei.cells) ++ news ++ arr.toList.drop (xs'.length * ei.cells + news.length)).toArray) hid hsd ⟨rr, _, hm, q1⟩ ?_ q8 (hexec _ _ _ q2 (by rw [hnlen]; exact hrun)) rfl rfl rfl (by simp) (fun k hk => setRow_other w b k _ hk) (setRow_heap w b arr _ _ _ q3) (by omega) ?_ ?_ ?_
                      · rintro ⟨r', B, hB, hb⟩
                        rw [fnd_del] at hB
                        split at hB
                        · cases hB
                        · rename_i hne'
                          exact hne' (hi.inj r' rr b B _ hB hm hb q1)
                      · simp [hnl]
                        rw [hnl] at hfit; omega
                      · simp only []
                        rw [List.append_assoc]
                        refine q6.take_len.append (by simp; omega) ?_
                        have h2 := hE.append hnl (ys := []) (ds := arr.toList.drop (xs'.length * ei.cells + news.length)) (by simp [DenE])
                        simpa using h2
                      · intro c hc
                        simp only [List.mem_append] at hc
                        rcases hc with (hc | hc) | hc
                        · exact q7 c (List.mem_of_mem_take hc)
                        · exact hone c hc
                        · exact q7 c (List.mem_of_mem_drop hc)
                    · refine grow (some ⟨b, 0, none⟩) cap (arr.toList.take (xs'.length * ei.cells)) q2 ?_ q6.take_len (by simp; omega) (fun c hc => q7 c (List.mem_of_mem_take hc)) (by omega) _ hid hsd
                      refine run_firstCells_some w.drew _ _ _ _ _ _ (by rw [hsz']; simp; omega) (fun j u hj => ?_)
                      rw [add_addr, World.cell?_drew, cell_of_row w b (0 + j) arr E _ q3]
                      have hjl : j < xs'.length * ei.cells := by
                        have := (List.getElem?_eq_some_iff.1 hj).1
                        simp at this; omega
                      rw [List.getElem?_take_of_lt hjl] at hj
                      simpa using hj
                · cases honto
              · cases honto
            · cases honto
          · cases h
        · cases h
      · cases h
    · cases h
  · cases h
end

theorem OpOk.share2 {P : Program} {N : Nat} {fr : Fr} {mem mem2 : Mem} {nx : Nat} {o : Oper} {z E : Nat} {xs : List SV} (hsub : ∀ q B, fnd mem2 q = some B → fnd mem q = some B) (h : OpOk P N fr mem nx o (.own nx) ((nx, .row z E xs) :: mem2) (nx + 1)) : OpOk P N fr mem nx o (.sl false z xs) mem2 nx := by
  intro Γ ρ w a hi hf
  obtain ⟨v, r, Γ', ρ', w', h1, h2, hden, _, hinv, hsame, _, hstp, hle, hnew⟩ := h Γ ρ w a hi hf
  have hhead : fnd ((nx, Blk.row z E xs) :: mem2) nx = some (.row z E xs) := by simp [fnd_cons]
  have hback : Env.same nx ρ' ρ := fun q hq => ⟨(hsame q hq).1.symm, (hsame q hq).2.symm⟩
  have hold : ∀ q B, fnd mem2 q = some B → q ≠ nx ∧ fnd ((nx, Blk.row z E xs) :: mem2) q = some B := fun q B hB => by
    have hlt := (hi.priv q B (hsub q B hB)).2.1
    have hne : nx ≠ q := by omega
    exact ⟨by omega, by simp [fnd_cons, hne, hB]⟩
  have hinj : ∀ r r' b B B', fnd mem2 r = some B → fnd mem2 r' = some B' → ρ.blk r = some b → ρ.blk r' = some b → r = r' := fun r r' b B B' g1 g2 => hi.inj r r' b B B' (hsub r B g1) (hsub r' B' g2)
  have hstp' : Stp ρ mem w ρ mem2 w' := ⟨hstp.os, hstp.tape, hstp.output, hstp.size, hstp.keep, fun b ⟨r, B, g1, g2⟩ => .inl ⟨r, B, hsub r B g1, g2⟩⟩
  simp only [Den] at hden
  obtain ⟨v', hv', hcase⟩ := (hinv.priv nx _ hhead).1
  rw [hden.1] at hv'
  cases hv'
  rcases hcase with ⟨rfl, rfl, _⟩ | ⟨b, arr, cap, hb, rfl, hheap, hcap, hsz, hE, _, hnone⟩
  · refine ⟨_, r, Γ', ρ, w', h1, h2, by simp [Den], rfl, ⟨hinv.pub, fun q B hB => ?_, hinj⟩, Env.same_refl _ _, Nat.le_refl _, hstp', hle, hnew⟩
    obtain ⟨_, g2⟩ := hold q B hB
    obtain ⟨_, g4, g5⟩ := hi.priv q B (hsub q B hB)
    exact ⟨(hinv.priv q B g2).1.move (Gh.le_refl _) hback g4 g5 (fun _ _ => ⟨rfl, id⟩), g4, g5⟩
  · have hle2 : Gh.le Γ' ⟨fun c => if c = b then some arr.toList else Γ' c, Γ'.lo⟩ := ⟨fun c cs hc => by
      by_cases e : c = b
      · subst e; rw [hnone] at hc; cases hc
      · simp [e, hc], rfl⟩
    refine ⟨_, r, ⟨fun c => if c = b then some arr.toList else Γ' c, Γ'.lo⟩, ρ, w', h1, h2, ?_, rfl, ⟨fun c cs hc => ?_, fun q B hB => ?_, hinj⟩, Env.same_refl _ _, Nat.le_refl _, hstp', Gh.le_trans hle hle2, fun c hc => ?_⟩
    · simp only [Den]
      refine .inr ⟨b, 0, cap, arr.toList, rfl, hcap, by simp, by simp, by simp [hsz], ?_⟩
      simpa using DenE.ext hle2 _ _ _ hE
    · by_cases e : c = b
      · subst e
        simp only [if_true, Option.some.injEq] at hc
        subst hc
        exact ⟨E, (0, 0), by simpa using hheap⟩
      · simp only [e, if_false] at hc
        exact hinv.pub c cs hc
    · obtain ⟨g1, g2⟩ := hold q B hB
      obtain ⟨_, g4, g5⟩ := hi.priv q B (hsub q B hB)
      refine ⟨(hinv.priv q B g2).1.move hle2 hback g4 g5 (fun c hc => ⟨rfl, fun hn => ?_⟩), g4, g5⟩
      have hne : c ≠ b := fun e => by
        subst e
        exact g1 (hinv.inj q nx c B _ g2 hhead hc hb)
      simp [hne, hn]
    · by_cases e : c = b
      · subst e
        rcases hstp.own c ⟨nx, _, hhead, hb⟩ with h | h
        · exact .inr (.inl h)
        · exact .inr (.inr h)
      · simp only [e, if_false] at hc
        exact hnew c hc
theorem OpOk.share {P : Program} {N : Nat} {fr : Fr} {mem : Mem} {nx : Nat} {o : Oper} {z E : Nat} {xs : List SV} (h : OpOk P N fr mem nx o (.own nx) ((nx, .row z E xs) :: mem) (nx + 1)) : OpOk P N fr mem nx o (.sl false z xs) mem nx := h.share2 (fun _ _ h => h)

def xappsh (T : Tab) (fr : Fr) (mem : Mem) (nx : Nat) (t t2 : Nat) (x y : Operand) : R := match xappend T fr mem nx t t2 x y with
  | some (.own _, (_, .row z _ xs) :: mem2, _, k) => some (.sl false z xs, mem2, nx, k)
  | _ => none
theorem append_form {T : Tab} {fr : Fr} {mem : Mem} {nx t t2 : Nat} {x y : Operand} {sv : SV} {mem' : Mem} {nx' : Nat} {k : Prop} (h : xappend T fr mem nx t t2 x y = some (sv, mem', nx', k)) :
    ∃ z E xs mem2, sv = .own nx ∧ mem' = (nx, .row z E xs) :: mem2 ∧ nx' = nx + 1 ∧ ∀ r C, fnd mem2 r = some C → fnd mem r = some C := by
  unfold xappend at h
  repeat' split at h
  all_goals first
    | (simp only [Option.some.injEq, Prod.mk.injEq] at h
       obtain ⟨rfl, rfl, rfl, _⟩ := h
       refine ⟨_, _, _, _, rfl, rfl, rfl, fun r C hC => ?_⟩
       first
         | (rw [fnd_del] at hC; split at hC <;> first | (cases hC; done) | exact hC)
         | exact hC)
    | (cases h; done)
theorem ok_appsh {P : Program} {T : Tab} (hT : TabOk P T) {N : Nat} {fr : Fr} {mem : Mem} {nx : Nat} {o : Oper} {t t2 : Nat} {x y : Operand} (ho : o.op = .call ⟨.builtin .append, ⟨[x, y]⟩, ⟨[t, t2]⟩⟩) {sv : SV} {mem' : Mem} {nx' : Nat} {k : Prop} (h : xappsh T fr mem nx t t2 x y = some (sv, mem', nx', k)) (hk : k) : OpOk P N fr mem nx o sv mem' nx' := by
  unfold xappsh at h
  split at h
  · rename_i hb
    obtain ⟨z, E, xs, mem2, e1, e2, e3, e4⟩ := append_form hb
    cases e1; cases e2; subst e3
    simp only [Option.some.injEq, Prod.mk.injEq] at h
    obtain ⟨rfl, rfl, rfl, rfl⟩ := h
    exact (ok_append hT ho hb hk).share2 e4
  · cases h
end Go.Proofs.Ytjchmajamlehmaa.X
