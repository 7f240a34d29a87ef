/- Weakening a state; loops and jumps by an indexed family of states. -/
import Derived.Test.YtjchmajamlehmaaXk
namespace Go.Proofs.Ytjchmajamlehmaa.X
open Go Go.RowKit

def Le (N n0 : Nat) (s s' : St) : Prop := ∀ Γ ρ w a, n0 ≤ s.nx → Ok Γ ρ N s w a → ∃ ρ', Env.same n0 ρ ρ' ∧ n0 ≤ s'.nx ∧ Ok Γ ρ' N s' w a ∧ ∀ b, Owned ρ' s'.mem b → Owned ρ s.mem b

theorem Le.refl (N n0 : Nat) (s : St) : Le N n0 s s := fun _ ρ _ _ hn hok => ⟨ρ, Env.same_refl _ _, hn, hok, fun _ h => h⟩
theorem Le.trans {N n0 : Nat} {a b c : St} (h : Le N n0 a b) (k : Le N n0 b c) : Le N n0 a c := fun Γ ρ w x hn hok => by
  obtain ⟨ρ1, h1, h2, h3, h4⟩ := h Γ ρ w x hn hok
  obtain ⟨ρ2, k1, k2, k3, k4⟩ := k Γ ρ1 w x h2 h3
  exact ⟨ρ2, Env.same_trans h1 k1, k2, k3, fun b hb => h4 b (k4 b hb)⟩

theorem Le.nxt {n0 : Nat} {s s' : St} {Γ : Gh} {ρ ρ' : Env} {w : World} (h1 : Env.same n0 ρ ρ') (h2 : n0 ≤ s'.nx) (h4 : ∀ b, Owned ρ' s'.mem b → Owned ρ s.mem b) : Nxt n0 Γ ρ s w Γ ρ' s' w :=
  ⟨⟨rfl, rfl, rfl, Nat.le_refl _, fun _ _ _ => rfl, fun b hb => .inl (h4 b hb)⟩, Gh.le_refl _, h1, h2, fun _ hb => .inl hb⟩

section
variable {rd : Option Nat} {P : Program} {N n0 : Nat}

theorem xw_le {c : Code} {K : XE → St → Prop} {s s' : St} (h : Le N n0 s s') (hx : XW rd P N n0 c K s') : XW rd P N n0 c K s := fun Γ ρ w a hn hok => by
  obtain ⟨ρ', h1, h2, h3, h4⟩ := h Γ ρ w a hn hok
  exact wpIn_mono (hx Γ ρ' w a h2 h3) (fun _ _ _ q => q.weaken (Le.nxt h1 h2 h4))

theorem xo_le {ops : Array Oper} {l : List Oper} {K : St → Prop} {s s' : St} (h : Le N n0 s s') (hx : XO rd P N n0 ops l K s') : XO rd P N n0 ops l K s := fun Γ ρ w a Q hn hok hQ => by
  obtain ⟨ρ', h1, h2, h3, h4⟩ := h Γ ρ w a hn hok
  exact hx Γ ρ' w a Q h2 h3 (fun Γ₂ ρ₂ s₂ w₂ a₂ g1 g2 g3 => hQ Γ₂ ρ₂ s₂ w₂ a₂ g1 ((Le.nxt h1 h2 h4).trans g2) g3)

def sg (n0 : Nat) (σ : List (Nat × Nat)) (r : Nat) : Nat := match Nat.blt r n0 with
  | true => r
  | false => match fnd σ r with
    | some o => o
    | none => r

mutual
/-- s fits t, whose names are to be read by σ: what is to be shown. -/
def wkc (n0 : Nat) (σ : List (Nat × Nat)) : SV → SV → Option (List Prop)
  | .int k n, .int k' m => match k, k' with
    | .i64, .i64 => some [n = m]
    | .u64, .u64 => some [n = m]
    | .u8, .u8 => some [n = m]
    | .i32, .i32 => some [n = m]
    | .u16, .u16 => some [n = m]
    | .i16, .i16 => some [n = m]
    | _, _ => none
  | .bool b, .bool c => some [b = c]
  | .loc r o, .loc r' o' => match Nat.beq r (sg n0 σ r'), Nat.beq o o' with
    | true, true => some []
    | _, _ => none
  | .own r, .own r' => match Nat.beq r (sg n0 σ r') with
    | true => some []
    | false => none
  | .nils, .nils => some []
  | .nils, .sl _ _ ys => some [ys = []]
  | .sl x z xs, .sl y z' ys => match Nat.beq z z' with
    | true => some [(y = true → x = true), xs = ys]
    | false => none
  | .agg l, .agg m => wkcL n0 σ l m
  | .tup l, .tup m => wkcL n0 σ l m
  | .fn f a c, .fn f' a' c' => match Nat.beq f f', wkcL n0 σ a a', wkcL n0 σ c c' with
    | true, some x, some y => some (x ++ y)
    | _, _, _ => none
  | .raw u, .raw v => some [u = v]
  | .elt x, .elt y => some [x = y]
  | .any, .any => some []
  | s, .any => match s.single with
    | true => some []
    | false => none
  | _, .junk => some []
  | _, _ => none
def wkcL (n0 : Nat) (σ : List (Nat × Nat)) : List SV → List SV → Option (List Prop)
  | [], [] => some []
  | s :: l, t :: m => match wkc n0 σ s t, wkcL n0 σ l m with
    | some x, some y => some (x ++ y)
    | _, _ => none
  | _, _ => none
end

theorem All.append {a b : List Prop} (h : All (a ++ b)) : All a ∧ All b := by
  induction a with
  | nil => exact ⟨trivial, h⟩
  | cons x a ih => obtain ⟨h1, h2⟩ := h; exact ⟨⟨h1, (ih h2).1⟩, (ih h2).2⟩

def Env.via (ρ : Env) (n0 : Nat) (σ : List (Nat × Nat)) : Env := ⟨fun r => ρ.blk (sg n0 σ r), fun r => ρ.val (sg n0 σ r)⟩
theorem Env.via_same (ρ : Env) (n0 : Nat) (σ : List (Nat × Nat)) : Env.same n0 ρ (ρ.via n0 σ) := fun r hr => by
  have : Nat.blt r n0 = true := by simpa using hr
  simp [Env.via, sg, this]

mutual
theorem wkc_sound {Γ : Gh} {ρ : Env} {σ : List (Nat × Nat)} : ∀ (s t : SV) (v : Value) (ks : List Prop), wkc n0 σ s t = some ks → All ks → Den Γ ρ s v → Den Γ (ρ.via n0 σ) t v
  | .int k n, t, v, ks, h, hk, hd => by
    cases t <;> simp only [wkc] at h <;> first | (cases h; done) | skip
    · rename_i k' m
      split at h <;> first | (cases h; done) | skip
      all_goals (cases h; obtain ⟨rfl, _⟩ := hk; simpa only [Den] using hd)
    · split at h
      · have := hd.single rfl; simpa only [Den] using this
      · cases h
    · simp only [Den]
  | .bool b, t, v, ks, h, hk, hd => by
    cases t <;> simp only [wkc] at h <;> first | (cases h; done) | skip
    · cases h; obtain ⟨rfl, _⟩ := hk; simpa only [Den] using hd
    · split at h
      · have := hd.single rfl; simpa only [Den] using this
      · cases h
    · simp only [Den]
  | .loc r o, t, v, ks, h, hk, hd => by
    cases t <;> simp only [wkc] at h <;> first | (cases h; done) | skip
    · split at h
      · rename_i h1 h2
        have h1 := Nat.eq_of_beq_eq_true h1; have h2 := Nat.eq_of_beq_eq_true h2
        subst h2
        simp only [Den, Env.via] at hd ⊢
        rw [← h1]; exact hd
      · cases h
    · split at h
      · have := hd.single rfl; simpa only [Den] using this
      · cases h
    · simp only [Den]
  | .own r, t, v, ks, h, hk, hd => by
    cases t <;> simp only [wkc] at h <;> first | (cases h; done) | skip
    · split at h
      · rename_i h1
        have h1 := Nat.eq_of_beq_eq_true h1
        simp only [Den, Env.via] at hd ⊢
        rw [← h1]; exact hd
      · cases h
    · split at h
      · have := hd.single rfl; simpa only [Den] using this
      · cases h
    · simp only [Den]
  | .nils, t, v, ks, h, hk, hd => by
    cases t <;> simp only [wkc] at h <;> first | (cases h; done) | skip
    · simpa only [Den] using hd
    · cases h; obtain ⟨rfl, _⟩ := hk
      simp only [Den] at hd ⊢
      exact .inl ⟨none, hd, trivial⟩
    · split at h
      · have := hd.single rfl; simpa only [Den] using this
      · cases h
    · simp only [Den]
  | .sl x z xs, t, v, ks, h, hk, hd => by
    cases t <;> simp only [wkc] at h <;> first | (cases h; done) | skip
    · split at h
      · rename_i hz
        have hz := Nat.eq_of_beq_eq_true hz
        cases h
        obtain ⟨hy, rfl, _⟩ := hk
        subst hz
        simp only [Den] at hd ⊢
        exact hd.imp id fun ⟨b, off, cap, cs, h1, h2, h3, h4⟩ => ⟨b, off, cap, cs, h1, h2, fun e => h3 (hy e), h4⟩
      · cases h
    · split at h
      · have := hd.single rfl; simpa only [Den] using this
      · cases h
    · simp only [Den]
  | .agg l, t, v, ks, h, hk, hd => by
    cases t <;> simp only [wkc] at h <;> first | (cases h; done) | skip
    · simp only [Den] at hd ⊢
      obtain ⟨vs, e, hd⟩ := hd
      exact ⟨vs, e, wkcL_sound l _ vs.toList ks h hk hd⟩
    · simp only [Den]
  | .tup l, t, v, ks, h, hk, hd => by
    cases t <;> simp only [wkc] at h <;> first | (cases h; done) | skip
    · simp only [Den] at hd ⊢
      obtain ⟨vs, e, hd⟩ := hd
      exact ⟨vs, e, wkcL_sound l _ vs.toList ks h hk hd⟩
    · simp only [Den]
  | .fn f a c, t, v, ks, h, hk, hd => by
    cases t <;> simp only [wkc] at h <;> first | (cases h; done) | skip
    · split at h
      · rename_i x y hf hx hy
        have hf := Nat.eq_of_beq_eq_true hf
        subst hf
        cases h
        obtain ⟨h1, h2⟩ := All.append hk
        simp only [Den] at hd ⊢
        obtain ⟨va, vc, e, d1, d2⟩ := hd
        exact ⟨va, vc, e, wkcL_sound a _ va.toList _ hx h1 d1, wkcL_sound c _ vc.toList _ hy h2 d2⟩
      · cases h
    · split at h
      · have := hd.single rfl; simpa only [Den] using this
      · cases h
    · simp only [Den]
  | .raw u, t, v, ks, h, hk, hd => by
    cases t <;> simp only [wkc] at h <;> first | (cases h; done) | skip
    · cases h; obtain ⟨rfl, _⟩ := hk; simpa only [Den] using hd
    · split at h
      · have := hd.single rfl; simpa only [Den] using this
      · cases h
    · simp only [Den]
  | .elt x, t, v, ks, h, hk, hd => by
    cases t <;> simp only [wkc] at h <;> first | (cases h; done) | skip
    · cases h; obtain ⟨rfl, _⟩ := hk; simpa only [Den] using hd
    · split at h
      · have := hd.single rfl; simpa only [Den] using this
      · cases h
    · simp only [Den]
  | .any, t, v, ks, h, hk, hd => by
    cases t <;> simp only [wkc] at h <;> first | (cases h; done) | skip
    · simpa only [Den] using hd
    · simp only [Den]
  | .relt _ _ _ _, t, v, ks, h, hk, hd => by
    cases t <;> simp only [wkc] at h <;> first | (cases h; done) | skip
    · split at h
      · have := hd.single rfl; simpa only [Den] using this
      · cases h
    · simp only [Den]
  | .osub _ _ _ _, t, v, ks, h, hk, hd => by
    cases t <;> simp only [wkc] at h <;> first | (cases h; done) | skip
    · split at h
      · have := hd.single rfl; simpa only [Den] using this
      · cases h
    · simp only [Den]
  | .junk, t, v, ks, h, hk, hd => by
    cases t <;> simp only [wkc] at h <;> first | (cases h; done) | skip
    · simp only [Den]
theorem wkcL_sound {Γ : Gh} {ρ : Env} {σ : List (Nat × Nat)} : ∀ (l m : List SV) (vs : List Value) (ks : List Prop), wkcL n0 σ l m = some ks → All ks → DenL Γ ρ l vs → DenL Γ (ρ.via n0 σ) m vs
  | [], [], vs, ks, _, _, hd => by simpa only [DenL] using hd
  | [], _ :: _, _, _, h, _, _ => by simp [wkcL] at h
  | _ :: _, [], _, _, h, _, _ => by simp [wkcL] at h
  | s :: l, t :: m, vs, ks, h, hk, hd => by
    simp only [wkcL] at h
    split at h
    · rename_i x y hx hy
      cases h
      obtain ⟨h1, h2⟩ := All.append hk
      simp only [DenL] at hd ⊢
      obtain ⟨v, r, e, d1, d2⟩ := hd
      exact ⟨v, r, e, wkc_sound s t v x hx h1 d1, wkcL_sound l m r y hy h2 d2⟩
    · cases h
end

def leFr (n0 : Nat) (σ : List (Nat × Nat)) (nx' : Nat) (fr : Fr) : Fr → Option (List Prop)
  | [] => some []
  | (d, t) :: l => match (match fnd fr d with | some x => wkc n0 σ x t | none => (match t with | .junk => some [] | _ => none)), t.bd nx', leFr n0 σ nx' fr l with
    | some x, true, some y => some (x ++ y)
    | _, _, _ => none

def leBlk (n0 : Nat) (σ : List (Nat × Nat)) : Blk → Blk → Option (List Prop)
  | .cells l E, .cells m E' => match Nat.beq E E' with
    | true => wkcL n0 σ l m
    | false => none
  | .row z E xs, .row z' E' ys => match Nat.beq z z', Nat.beq E E' with
    | true, true => some [xs = ys]
    | _, _ => none
  | .mp true k es, .mp true k' es' => match Nat.beq (ikN k) (ikN k') with
    | true => some [es = es']
    | false => none
  | .lp nb q, .lp nb' q' => match Nat.beq nb nb', Nat.ble nb n0 with
    | true, true => some [q = q']
    | _, _ => none
  | _, _ => none

def hasKey : List (Nat × Nat) → Nat → Bool
  | [], _ => false
  | (_, o) :: l, n => match Nat.beq o n with
    | true => true
    | false => hasKey l n

def leMem (n0 : Nat) (σ : List (Nat × Nat)) (nx' : Nat) (mem : Mem) : List (Nat × Nat) → Mem → Option (List Prop)
  | _, [] => some []
  | used, (r, B) :: l => match fnd mem (sg n0 σ r) with
    | some B0 => match leBlk n0 σ B0 B, B.bd nx', Nat.blt r nx', hasKey used (sg n0 σ r), leMem n0 σ nx' mem ((0, sg n0 σ r) :: used) l with
      | some x, true, true, false, some y => some (x ++ y)
      | _, _, _, _, _ => none
    | none => none

def lechk (n0 : Nat) (σ : List (Nat × Nat)) (s s' : St) : Option (List Prop) :=
  match leFr n0 σ s'.nx s.fr s'.fr, leMem n0 σ s'.nx s.mem [] s'.mem, Nat.ble n0 s'.nx with
  | some x, some y, true => some (x ++ y)
  | _, _, _ => none

theorem leFr_sound {Γ : Gh} {ρ : Env} {σ : List (Nat × Nat)} {nx nx' : Nat} {fr : Fr} {a : Act} (hf : FrDen Γ ρ nx N fr a) : ∀ (fr' : Fr) (ks : List Prop), leFr n0 σ nx' fr fr' = some ks → All ks → ∀ d s, fnd fr' d = some s → Den Γ (ρ.via n0 σ) s (a.tmps.getD d undef) ∧ s.bd nx' = true
  | [], _, _, _, d, s, h => by simp [fnd] at h
  | (d', t) :: l, ks, h, hk, d, s, hd => by
    simp only [leFr] at h
    split at h
    · rename_i x y hx hb hy
      cases h
      obtain ⟨k1, k2⟩ := All.append hk
      rw [fnd_cons] at hd
      split at hd
      · rename_i e; subst e; cases hd
        refine ⟨?_, hb⟩
        split at hx
        · rename_i u hu
          exact wkc_sound u _ _ x hx k1 (hf.slot d' u hu).1
        · split at hx
          · simp only [Den]
          · cases hx
      · exact leFr_sound hf l y hy k2 d s hd
    · cases h

theorem leBlk_sound {Γ : Gh} {ρ : Env} {σ : List (Nat × Nat)} {w : World} {r : Nat} {B0 B : Blk} {ks : List Prop} (h : leBlk n0 σ B0 B = some ks) (hk : All ks) (hB : BlkOk Γ ρ w (sg n0 σ r) B0) : BlkOk Γ (ρ.via n0 σ) w r B := by
  cases B0 with
  | cells l E =>
    cases B with
    | cells m E' =>
      simp only [leBlk] at h
      split at h
      · rename_i he
        have he := Nat.eq_of_beq_eq_true he
        subst he
        obtain ⟨b, arr, h1, h2, h3, h4, h5⟩ := hB
        exact ⟨b, arr, h1, h2, wkcL_sound l m _ ks h hk h3, h4, h5⟩
      · cases h
    | row z E' ys => simp [leBlk] at h
    | lp nb q => simp [leBlk] at h
    | mp p k es => simp [leBlk] at h
  | row z E xs =>
    cases B with
    | cells m E' => simp [leBlk] at h
    | lp nb q => simp [leBlk] at h
    | mp p k es => simp [leBlk] at h
    | row z' E' ys =>
      simp only [leBlk] at h
      split at h
      · rename_i h1 h2
        have h1 := Nat.eq_of_beq_eq_true h1
        have h2 := Nat.eq_of_beq_eq_true h2
        subst h1 h2
        cases h
        obtain ⟨rfl, _⟩ := hk
        exact hB
      · cases h
  | lp nb q =>
    cases B with
    | cells m E' => simp [leBlk] at h
    | row z' E' ys => simp [leBlk] at h
    | mp p k es => simp [leBlk] at h
    | lp nb' q' =>
      simp only [leBlk] at h
      split at h
      · rename_i h1 h2
        have h1 := Nat.eq_of_beq_eq_true h1
        subst h1
        cases h
        obtain ⟨rfl, _⟩ := hk
        obtain ⟨g1, g2, tmps, dfr, g3, g4, g5⟩ := hB
        exact ⟨g1, g2, tmps, dfr, g3, g4, fun d s hd => ⟨Den.ext (Gh.le_refl _) s _ (Env.same_mono (Nat.le_of_ble_eq_true h2) (ρ.via_same n0 σ)) (g5 d s hd).2 (g5 d s hd).1, (g5 d s hd).2⟩⟩
      · cases h
  | mp p k es =>
    cases B with
    | cells m E' => cases p <;> simp [leBlk] at h
    | row z' E' ys => cases p <;> simp [leBlk] at h
    | lp nb' q' => cases p <;> simp [leBlk] at h
    | mp p' k' es' =>
      cases p <;> cases p' <;> simp only [leBlk] at h <;> first | (cases h; done) | skip
      split at h
      · rename_i h1
        have h1 := ikN_inj h1
        subst h1
        cases h
        obtain ⟨rfl, _⟩ := hk
        exact hB
      · cases h

theorem hasKey_false {l : List (Nat × Nat)} {n : Nat} (h : hasKey l n = false) : ∀ p ∈ l, p.2 ≠ n := by
  induction l with
  | nil => simp
  | cons q l ih =>
    obtain ⟨i, o⟩ := q
    simp only [hasKey] at h
    split at h
    · cases h
    · rename_i hb
      intro p hp
      rcases List.mem_cons.1 hp with rfl | hp
      · exact fun e => by subst e; simp at hb
      · exact ih h p hp

theorem leMem_sound {σ : List (Nat × Nat)} {nx' : Nat} {mem : Mem} : ∀ (mem' : Mem) (used : List (Nat × Nat)) (ks : List Prop), leMem n0 σ nx' mem used mem' = some ks → All ks →
    (∀ r B, fnd mem' r = some B → ∃ B0 ks', fnd mem (sg n0 σ r) = some B0 ∧ leBlk n0 σ B0 B = some ks' ∧ All ks' ∧ B.bd nx' = true ∧ r < nx' ∧ ∀ p ∈ used, p.2 ≠ sg n0 σ r) ∧
    (∀ r r' B B', fnd mem' r = some B → fnd mem' r' = some B' → sg n0 σ r = sg n0 σ r' → r = r')
  | [], used, ks, _, _ => ⟨fun r B h => by simp [fnd] at h, fun r r' B B' h => by simp [fnd] at h⟩
  | (r0, B0) :: l, used, ks, h, hk => by
    simp only [leMem] at h
    split at h
    · rename_i Bo hBo
      split at h
      · rename_i x y hx hb hlt hu hy
        cases h
        obtain ⟨k1, k2⟩ := All.append hk
        obtain ⟨g1, g2⟩ := leMem_sound l _ y hy k2
        refine ⟨fun r B hB => ?_, fun r r' B B' hB hB' e => ?_⟩
        · rw [fnd_cons] at hB
          split at hB
          · rename_i e; subst e; cases hB
            exact ⟨Bo, x, hBo, hx, k1, hb, by simpa using hlt, hasKey_false hu⟩
          · obtain ⟨Bx, kx, q1, q2, q3, q4, q5, q6⟩ := g1 r B hB
            exact ⟨Bx, kx, q1, q2, q3, q4, q5, fun p hp => q6 p (List.mem_cons_of_mem _ hp)⟩
        · rw [fnd_cons] at hB hB'
          split at hB <;> split at hB'
          · omega
          · rename_i e1 e2
            subst e1
            obtain ⟨_, _, _, _, _, _, _, q6⟩ := g1 r' B' hB'
            exact absurd e (q6 (0, sg n0 σ r0) (by simp))
          · rename_i e1 e2
            subst e2
            obtain ⟨_, _, _, _, _, _, _, q6⟩ := g1 r B hB
            exact absurd e.symm (q6 (0, sg n0 σ r0) (by simp))
          · exact g2 r r' B B' hB hB' e
      · cases h
    · cases h

theorem le_of (σ : List (Nat × Nat)) {s s' : St} (ks : List Prop) (h : lechk n0 σ s s' = some ks) (hk : All ks) : Le N n0 s s' := by
  unfold lechk at h
  split at h
  · rename_i x y hx hy hn
    cases h
    obtain ⟨k1, k2⟩ := All.append hk
    obtain ⟨g1, g2⟩ := leMem_sound s'.mem [] y hy k2
    intro Γ ρ w a hn0 hok
    refine ⟨ρ.via n0 σ, ρ.via_same n0 σ, Nat.le_of_ble_eq_true hn, ⟨⟨hok.inv.pub, fun r B hB => ?_, fun r r' b B B' hB hB' hb hb' => ?_⟩, hok.marks, hok.frame.size, leFr_sound hok.frame s'.fr x hx k1⟩, ?_⟩
    · obtain ⟨B0, ks', q1, q2, q3, q4, q5, _⟩ := g1 r B hB
      exact ⟨leBlk_sound q2 q3 (hok.inv.priv _ B0 q1).1, q5, q4⟩
    · obtain ⟨B0, _, q1, _⟩ := g1 r B hB
      obtain ⟨B0', _, q1', _⟩ := g1 r' B' hB'
      exact g2 r r' B B' hB hB' (hok.inv.inj _ _ b B0 B0' q1 q1' hb hb')
    · rintro b ⟨r, B, hB, hb⟩
      obtain ⟨B0, _, q1, _⟩ := g1 r B hB
      exact ⟨_, B0, q1, hb⟩
  · cases h

theorem wp_loop_ix {α : Type} {c : Code} {Q : Exit → Act → World → Prop} (I : α → Act → World → Prop) (μ : α → Nat) {x0 : α} {a : Act} {w : World} (h0 : I x0 a w)
    (round : ∀ x a w, I x a w → c.wpIn (fnc rd) 0 P (Exit.then (fun a' w' => ∃ y, I y a' w' ∧ μ y < μ x) Q) a w) : (Code.loop c).wpIn (fnc rd) 0 P Q a w := by
  intro b k cs hro hb hr
  have key : ∀ n x a w, μ x = n → I x a w → ∃ e a' w', Q e a' w' ∧ ArrivesIn (Machine.fenced P (fnc rd)) P (lone (b.atR a (.code c :: .inLoop c :: k)) cs w) b k cs e a' w' := by
    intro n
    induction n using Nat.strongRecOn with
    | _ n ih =>
      intro x a w hn hI
      obtain ⟨e, a₁, w₁, hq, harr⟩ := round x a w hI b (.inLoop c :: k) cs hro hb hr
      cases e with
      | normal =>
        obtain ⟨y, hI₁, hlt⟩ := hq
        obtain ⟨e₂, a₂, w₂, hq₂, harr₂⟩ := ih (μ y) (hn ▸ hlt) y a₁ w₁ rfl hI₁
        exact ⟨e₂, a₂, w₂, hq₂, .of_steps (StepsIn.trans harr (.one (fenced_calm hb hr rfl) stepR_inLoop)) harr₂⟩
      | exit id => exact ⟨_, a₁, w₁, hq, .pass (x := .inLoop c) rfl (fun _ _ => .inl (by simp)) harr⟩
      | goto l => exact ⟨_, a₁, w₁, hq, .pass (x := .inLoop c) rfl (fun _ _ => .inl (by simp)) harr⟩
      | ret => exact ⟨_, a₁, w₁, hq, .pass (x := .inLoop c) rfl (fun _ _ => .inl (by simp)) harr⟩
      | panic ch => exact ⟨_, a₁, w₁, hq, .pass (x := .inLoop c) rfl (fun _ _ => .inl (by simp)) harr⟩
      | outgrown => exact ⟨_, a₁, w₁, hq, .pass (x := .inLoop c) rfl (fun _ _ => .inl (by simp)) harr⟩
  obtain ⟨e, a', w', hq, harr⟩ := key _ x0 a w rfl h0
  exact ⟨e, a', w', hq, .of_steps (.one (fenced_calm hb hr rfl) stepR_loop) harr⟩

def Again {α : Type} (N n0 : Nat) (I : α → St) (μ : α → Nat) (x : α) (K : XE → St → Prop) : XE → St → Prop
  | .normal, s => ∃ y, Le N n0 s (I y) ∧ μ y < μ x
  | e, s => K e s

theorem xw_loop {α : Type} {c : Code} {K : XE → St → Prop} {s : St} (I : α → St) (μ : α → Nat) (x0 : α) (h0 : Le N n0 s (I x0)) (round : ∀ x, XW rd P N n0 c (Again N n0 I μ x K) (I x)) : XW rd P N n0 (.loop c) K s := by
  intro Γ ρ w a hn hok
  refine wp_loop_ix (fun x a' w' => ∃ Γ' ρ', Ok Γ' ρ' N (I x) w' a' ∧ Nxt n0 Γ ρ s w Γ' ρ' (I x) w') μ (x0 := x0) ?_ ?_
  · obtain ⟨ρ', h1, h2, h3, h4⟩ := h0 Γ ρ w a hn hok
    exact ⟨Γ, ρ', h3, Le.nxt h1 h2 h4⟩
  · rintro x a' w' ⟨Γ', ρ', hok', hnx⟩
    refine wpIn_mono (round x Γ' ρ' w' a' hnx.nx hok') ?_
    rintro e a₂ w₂ ⟨xe, Γ₂, ρ₂, s₂, rfl, h2, h3, h4⟩
    cases xe with
    | normal =>
      obtain ⟨y, hle, hlt⟩ := h4
      obtain ⟨ρ₃, g1, g2, g3, g4⟩ := hle Γ₂ ρ₂ w₂ a₂ h3.nx h2
      exact ⟨y, ⟨Γ₂, ρ₃, g3, (hnx.trans h3).trans (Le.nxt g1 g2 g4)⟩, hlt⟩
    | exit i => exact ⟨.exit i, Γ₂, ρ₂, s₂, rfl, h2, hnx.trans h3, h4⟩
    | goto l => exact ⟨.goto l, Γ₂, ρ₂, s₂, rfl, h2, hnx.trans h3, h4⟩
    | ret => exact ⟨.ret, Γ₂, ρ₂, s₂, rfl, h2, hnx.trans h3, h4⟩

theorem wp_scope_ix {α : Type} {c rest : Code} {Q : Exit → Act → World → Prop} (l : Nat) (J : α → Act → World → Prop) (μ : α → Nat) (hf : findLabel c l = some rest) {a : Act} {w : World}
    (first : c.wp P (Exit.jump l (fun a w => ∃ x, J x a w) Q) a w)
    (pass : ∀ x a w, J x a w → rest.wp P (Exit.jump l (fun a' w' => ∃ y, J y a' w' ∧ μ y < μ x) Q) a w) : (Code.scope c).wp P Q a w := by
  intro b k cs
  have hg : gotoIn l (.inScope c :: k) = some (.code rest :: .inScope c :: k) := by simp [gotoIn, hf]
  have key : ∀ n x a w, μ x = n → J x a w → ∃ e a' w', Q e a' w' ∧ Arrives P (lone (b.at a (.code rest :: .inScope c :: k)) cs w) b k cs e a' w' := by
    intro n
    induction n using Nat.strongRecOn with
    | _ n ih =>
      intro x a w hn hJ
      obtain ⟨e, a₁, w₁, hq, harr⟩ := pass x a w hJ b (.inScope c :: k) cs
      cases e with
      | normal => exact ⟨.normal, a₁, w₁, hq, Steps.trans harr (.one step_inScope)⟩
      | exit id => exact ⟨.exit id, a₁, w₁, hq, fun k' hk => harr k' (by simp [exitTo, hk])⟩
      | goto l' =>
        obtain ⟨rfl, y, hJ', hlt⟩ := hq
        obtain ⟨e₂, a₂, w₂, hq₂, harr₂⟩ := ih (μ y) (by omega) y a₁ w₁ rfl hJ'
        exact ⟨e₂, a₂, w₂, hq₂, .of_steps (harr _ hg) harr₂⟩
      | ret => exact ⟨_, a₁, w₁, hq, harr⟩
      | panic ch => exact ⟨_, a₁, w₁, hq, harr⟩
      | outgrown => exact ⟨_, a₁, w₁, hq, harr⟩
  obtain ⟨e, a₁, w₁, hq, harr⟩ := first b (.inScope c :: k) cs
  cases e with
  | normal => exact ⟨.normal, a₁, w₁, hq, .head step_scope (Steps.trans harr (.one step_inScope))⟩
  | exit id => exact ⟨.exit id, a₁, w₁, hq, fun k' hk => .head step_scope (harr k' (by simp [exitTo, hk]))⟩
  | goto l' =>
    obtain ⟨rfl, y, hJ'⟩ := hq
    obtain ⟨e₂, a₂, w₂, hq₂, harr₂⟩ := key _ y a₁ w₁ rfl hJ'
    exact ⟨e₂, a₂, w₂, hq₂, .of_steps (.head step_scope (harr _ hg)) harr₂⟩
  | ret => exact ⟨_, a₁, w₁, hq, .of_steps (.one step_scope) harr⟩
  | panic ch => exact ⟨_, a₁, w₁, hq, .of_steps (.one step_scope) harr⟩
  | outgrown => exact ⟨_, a₁, w₁, hq, .of_steps (.one step_scope) harr⟩

def Jump0 {α : Type} (N n0 : Nat) (l : Nat) (I : α → St) (K : XE → St → Prop) : XE → St → Prop
  | .goto l', s => l' = l ∧ ∃ y, Le N n0 s (I y)
  | e, s => K e s
def Jump {α : Type} (N n0 : Nat) (l : Nat) (I : α → St) (μ : α → Nat) (x : α) (K : XE → St → Prop) : XE → St → Prop
  | .goto l', s => l' = l ∧ ∃ y, Le N n0 s (I y) ∧ μ y < μ x
  | e, s => K e s

theorem xw_scope {α : Type} {c rest : Code} {K : XE → St → Prop} {s : St} (l : Nat) (hf : findLabel c l = some rest) (I : α → St) (μ : α → Nat) (first : XW none P N n0 c (Jump0 N n0 l I K) s) (pass : ∀ x, XW none P N n0 rest (Jump N n0 l I μ x K) (I x)) : XW none P N n0 (.scope c) K s := by
  intro Γ ρ w a hn hok
  refine (wpIn_wide (n := 0)).2 (wp_scope_ix l (fun x a' w' => ∃ Γ' ρ', Ok Γ' ρ' N (I x) w' a' ∧ Nxt n0 Γ ρ s w Γ' ρ' (I x) w') μ hf ?_ ?_)
  · refine wp_mono ((wpIn_wide (n := 0)).1 (first Γ ρ w a hn hok)) ?_
    rintro e a₂ w₂ ⟨xe, Γ₂, ρ₂, s₂, rfl, h2, h3, h4⟩
    cases xe with
    | normal => exact ⟨.normal, Γ₂, ρ₂, s₂, rfl, h2, h3, h4⟩
    | exit i => exact ⟨.exit i, Γ₂, ρ₂, s₂, rfl, h2, h3, h4⟩
    | goto l' =>
      obtain ⟨rfl, y, hle⟩ := h4
      obtain ⟨ρ₃, g1, g2, g3, g4⟩ := hle Γ₂ ρ₂ w₂ a₂ h3.nx h2
      exact ⟨rfl, y, Γ₂, ρ₃, g3, h3.trans (Le.nxt g1 g2 g4)⟩
    | ret => exact ⟨.ret, Γ₂, ρ₂, s₂, rfl, h2, h3, h4⟩
  · rintro x a' w' ⟨Γ', ρ', hok', hnx⟩
    refine wp_mono ((wpIn_wide (n := 0)).1 (pass x Γ' ρ' w' a' hnx.nx hok')) ?_
    rintro e a₂ w₂ ⟨xe, Γ₂, ρ₂, s₂, rfl, h2, h3, h4⟩
    cases xe with
    | normal => exact ⟨.normal, Γ₂, ρ₂, s₂, rfl, h2, hnx.trans h3, h4⟩
    | exit i => exact ⟨.exit i, Γ₂, ρ₂, s₂, rfl, h2, hnx.trans h3, h4⟩
    | goto l' =>
      obtain ⟨rfl, y, hle, hlt⟩ := h4
      obtain ⟨ρ₃, g1, g2, g3, g4⟩ := hle Γ₂ ρ₂ w₂ a₂ h3.nx h2
      exact ⟨rfl, y, ⟨Γ₂, ρ₃, g3, (hnx.trans h3).trans (Le.nxt g1 g2 g4)⟩, hlt⟩
    | ret => exact ⟨.ret, Γ₂, ρ₂, s₂, rfl, h2, hnx.trans h3, h4⟩
end
end Go.Proofs.Ytjchmajamlehmaa.X
