/- Short steps for ranges over functions. -/
import Derived.Test.YtlapjlbmhaalbaaXx1
import Derived.Test.YtlapjlbmhaalbaaXm3
namespace Go.Proofs.Ytlapjlbmhaalbaa.X
open Go Go.RowKit


def yieldAt (N : Nat) (ops : Array Oper) (fr : Fr) (i : Nat) : Option (Nat × List SV × Option Nat) := match ops.toList[i]? with
  | some o => match gd ops fr o.guard, o.op with
    | some true, .call ⟨.value g, as, _⟩ => match evo fr g, putS N fr o.dst (.bool true) with
      | .raw (.func (.yield l) ⟨[]⟩ ⟨[]⟩), some _ => some (l, as.toList.map (evo fr), o.dst)
      | _, _ => none
    | _, _ => none
  | none => none
section
variable {rd : Option Nat} {P : Program} {T : Tab} {N n0 : Nat} {ops : Array Oper}
def YK (rd : Option Nat) (P : Program) (N n0 : Nat) (ops : Array Oper) (i : Nat) (K : St → Prop) (s : St) (d : Option Nat) (r nb : Nat) (q : Lp) : XE → St → Prop := fun e s2 =>
  XOi rd P N n0 ops (i + 1) K ⟨putO s.fr d (.bool e.jump.isNone), (r, .lp nb { q with left := e.jump }) :: s2.mem, s2.nx⟩
theorem xoi_yield {i : Nat} {K : St → Prop} {s : St} (r nb : Nat) {q : Lp} {lq N0 : Nat} {fr0 : Fr} {fn : FuncId} {ps : Array Tmp} {assign body : Code} {xs : List SV} {d : Option Nat} (hq : q = ⟨lq, none, fr0, N0, fn, ps, assign, body⟩) (hat : yieldAt N ops s.fr i = some (lq, xs, d))
    (hm : fnd s.mem r = some (.lp nb q)) (hps : Nat.beq ps.size xs.length = true) (hpN : ps.toList.all (fun t => Nat.blt t N0) = true)
    (h : XW (some lq) P N0 s.nx assign (fun e s1 => e = .normal ∧ XW (some lq) P N0 s.nx body (YK rd P N n0 ops i K s d r nb q) s1) ⟨roundFr ps.toList xs fr0, del s.mem r, s.nx⟩) : XOi rd P N n0 ops i K s := by
  unfold yieldAt at hat
  split at hat
  · rename_i o ho
    split at hat
    · rename_i g as ats hg hop
      split at hat
      · rename_i l' fr'' hy hput
        simp only [Option.some.injEq, Prod.mk.injEq] at hat
        obtain ⟨rfl, rfl, rfl⟩ := hat
        subst hq
        unfold XOi
        rw [drop_cons ho]
        obtain ⟨asl⟩ := as
        refine xo_yield (g := g) (as := asl) (ats := ats) (r := r) (nb := nb) hg hop hy hm rfl rfl ?_ (fun t ht => ?_) (xw_mono h ?_)
        · have := Nat.eq_of_beq_eq_true hps
          simpa using this
        · simpa using List.all_eq_true.1 hpN t ht
        · rintro e s1 ⟨h1, h2⟩
          refine ⟨h1, xw_mono h2 fun e s2 hk => ?_⟩
          have hp : ∀ b, ∃ fr', putS N s.fr o.dst (.bool b) = some fr' ∧ fr' = putO s.fr o.dst (.bool b) := fun b => by
            cases hd : o.dst with
            | none => exact ⟨_, rfl, rfl⟩
            | some d =>
              rw [hd] at hput
              simp only [putS] at hput ⊢
              split at hput
              · exact ⟨_, rfl, rfl⟩
              · cases hput
          obtain ⟨fr', k1, k2⟩ := hp e.jump.isNone
          exact ⟨fr', k1, by rw [k2]; exact hk⟩
      · cases hat
    · cases hat
  · cases hat
variable {i : Nat} {K : St → Prop} {s s2 : St} {d : Option Nat} {r nb : Nat} {q : Lp}
theorem yk_normal (hl : q.left = none) (h : XOi rd P N n0 ops (i + 1) K ⟨putO s.fr d (.bool true), (r, .lp nb q) :: s2.mem, s2.nx⟩) : YK rd P N n0 ops i K s d r nb q .normal s2 := by
  have : ({ q with left := none } : Lp) = q := by cases q; simp only at hl; subst hl; rfl
  unfold YK
  show XOi rd P N n0 ops (i + 1) K ⟨putO s.fr d (.bool true), (r, .lp nb { q with left := none }) :: s2.mem, s2.nx⟩
  rw [this]; exact h
theorem yk_ret (h : ∀ q', q' = ({ q with left := some .ret } : Lp) → XOi rd P N n0 ops (i + 1) K ⟨putO s.fr d (.bool false), (r, .lp nb q') :: s2.mem, s2.nx⟩) : YK rd P N n0 ops i K s d r nb q .ret s2 := h _ rfl
theorem yk_exit {id : Nat} (h : ∀ q', q' = ({ q with left := some (.exit id) } : Lp) → XOi rd P N n0 ops (i + 1) K ⟨putO s.fr d (.bool false), (r, .lp nb q') :: s2.mem, s2.nx⟩) : YK rd P N n0 ops i K s d r nb q (.exit id) s2 := h _ rfl
theorem range_end {K : XE → St → Prop} {N n0 r : Nat} {mem : Mem} {nx : Nat} {fr : Fr} {nb : Nat} {q : Lp} (hm : fnd mem r = some (.lp nb q)) (hl : q.left = none) (h : K .normal ⟨fr, del mem r, nx⟩) :
    ∃ q, fnd mem r = some (.lp nb q) ∧ (q.left = none → K .normal ⟨fr, del mem r, nx⟩) ∧ (∀ c, q.left = some c → XW none P N n0 c K ⟨fr, del mem r, nx⟩) := ⟨q, hm, fun _ => h, fun c hc => by rw [hl] at hc; cases hc⟩
theorem range_jump {K : XE → St → Prop} {N n0 r : Nat} {mem : Mem} {nx : Nat} {fr : Fr} {nb : Nat} {q : Lp} {c : Code} (hm : fnd mem r = some (.lp nb q)) (hl : q.left = some c) (h : XW none P N n0 c K ⟨fr, del mem r, nx⟩) :
    ∃ q, fnd mem r = some (.lp nb q) ∧ (q.left = none → K .normal ⟨fr, del mem r, nx⟩) ∧ (∀ c, q.left = some c → XW none P N n0 c K ⟨fr, del mem r, nx⟩) := ⟨q, hm, fun e => (by rw [hl] at e; cases e), fun c' hc => by rw [hl] at hc; cases hc; exact h⟩
end

/-! A nil slice in a cell is an empty row of one's own; a head's pointers, in order. -/

theorem denL_nil {Γ : Gh} {ρ : Env} {n : Nat} (h0 : Den Γ ρ (.own n) (.slice none 0 0)) : ∀ (l : List SV) (vs : List Value) (j : Nat), DenL Γ ρ l vs → l[j]? = some .nils → DenL Γ ρ (l.set j (.own n)) vs
  | [], _, j, _, hj => by simp at hj
  | s :: l, vs, 0, h, hj => by
    simp only [List.getElem?_cons_zero, Option.some.injEq] at hj
    subst hj
    simp only [DenL] at h
    obtain ⟨v, r, e, h1, h2⟩ := h
    simp only [Den] at h1
    simp only [List.set_cons_zero, DenL]
    exact ⟨v, r, e, by rw [h1]; exact h0, h2⟩
  | s :: l, vs, j + 1, h, hj => by
    simp only [List.getElem?_cons_succ] at hj
    simp only [DenL] at h
    obtain ⟨v, r, e, h1, h2⟩ := h
    simp only [List.set_cons_succ, DenL]
    exact ⟨v, r, e, h1, denL_nil h0 l r j h2 hj⟩
theorem bdL_nil {n m : Nat} (h : n < m) : ∀ (l : List SV) (j : Nat), bdL m l = true → bdL m (l.set j (.own n)) = true
  | [], _, h => h
  | s :: l, 0, hb => by
    simp only [bdL, Bool.and_eq_true, List.set_cons_zero] at *
    exact ⟨by simpa [SV.bd] using h, hb.2⟩
  | s :: l, j + 1, hb => by
    simp only [bdL, Bool.and_eq_true, List.set_cons_succ] at *
    exact ⟨hb.1, bdL_nil h l j hb.2⟩
section
variable {rd : Option Nat} {P : Program} {T : Tab} {N n0 : Nat}
theorem le_nilCell (r j z E F : Nat) {l : List SV} {s : St} (hr : fnd s.mem r = some (.cells l F)) (hj : l[j]? = some .nils) : Le N n0 s ⟨s.fr, (s.nx, .row z E []) :: upd s.mem r (.cells (l.set j (.own s.nx)) F), s.nx + 1⟩ := fun Γ ρ w a hn hok => by
  have hs := Env.add_same ρ s.nx none (some (.slice none 0 0))
  have hsome : (fnd s.mem r).isSome = true := by rw [hr]; rfl
  obtain ⟨⟨bq, arr, k1, k2, k3, k4, k5⟩, hrn, hbd⟩ := hok.inv.priv r _ hr
  have hold : ∀ r' B, fnd (upd s.mem r (.cells (l.set j (.own s.nx)) F)) r' = some B → ∃ B', fnd s.mem r' = some B' := fun r' B hB => by
    rw [fnd_upd _ _ _ _ hsome] at hB
    split at hB
    · rename_i e; subst e; exact ⟨_, hr⟩
    · exact ⟨B, hB⟩
  refine ⟨ρ.add s.nx none (some (.slice none 0 0)), Env.same_mono hn hs, Nat.le_succ_of_le hn, ⟨⟨hok.inv.pub, fun r' B hB => ?_, fun r1 r2 c B B' hB hB' hc hc' => ?_⟩, hok.marks, hok.frame.size, fun d' s' hd => ?_⟩, ?_⟩
  · rw [fnd_cons] at hB
    split at hB
    · rename_i e; subst e; cases hB
      exact ⟨⟨_, Env.add_val _ _ _ _, .inl ⟨rfl, rfl, Env.add_blk _ _ _ _⟩⟩, Nat.lt_succ_self _, rfl⟩
    · rw [fnd_upd _ _ _ _ hsome] at hB
      split at hB
      · rename_i e; subst e; cases hB
        refine ⟨⟨bq, arr, by rw [(hs r' hrn).1]; exact k1, k2, denL_nil ?_ _ _ _ (DenL.ext (Gh.le_refl _) l _ hs hbd k3) hj, k4, k5⟩, Nat.lt_succ_of_lt hrn, bdL_nil (Nat.lt_succ_self _) l j (bdL_mono (Nat.le_succ _) l hbd)⟩
        simp only [Den]
        exact ⟨Env.add_val _ _ _ _, rfl⟩
      · obtain ⟨h1, h2, h3⟩ := hok.inv.priv r' B hB
        exact ⟨h1.move (Gh.le_refl _) hs h2 h3 (fun c hc => ⟨rfl, id⟩), Nat.lt_succ_of_lt h2, B.bd_mono (Nat.le_succ _) h3⟩
  · rw [fnd_cons] at hB hB'
    split at hB <;> split at hB'
    · omega
    · rename_i e e'; subst e; rw [Env.add_blk] at hc; cases hc
    · rename_i e e'; subst e'; rw [Env.add_blk] at hc'; cases hc'
    · obtain ⟨C, hC⟩ := hold r1 B hB
      obtain ⟨C', hC'⟩ := hold r2 B' hB'
      rw [(hs r1 (hok.inv.priv r1 C hC).2.1).1] at hc
      rw [(hs r2 (hok.inv.priv r2 C' hC').2.1).1] at hc'
      exact hok.inv.inj r1 r2 c C C' hC hC' hc hc'
  · have := hok.frame.slot d' s' hd
    exact ⟨Den.ext (Gh.le_refl _) s' _ hs this.2 this.1, SV.bd_mono (Nat.le_succ _) s' this.2⟩
  · rintro c ⟨r', B, hB, hc⟩
    rw [fnd_cons] at hB
    split at hB
    · rename_i e; subst e; rw [Env.add_blk] at hc; cases hc
    · obtain ⟨C, hC⟩ := hold r' B hB
      rw [(hs r' (hok.inv.priv r' C hC).2.1).1] at hc
      exact ⟨r', C, hC, hc⟩
theorem xw_nilcell {c : Code} {K : XE → St → Prop} {s : St} (r j z E F : Nat) {l : List SV} (hr : fnd s.mem r = some (.cells l F)) (hj : l[j]? = some .nils) (hx : XW rd P N n0 c K ⟨s.fr, (s.nx, .row z E []) :: upd s.mem r (.cells (l.set j (.own s.nx)) F), s.nx + 1⟩) : XW rd P N n0 c K s := xw_le (le_nilCell r j z E F hr hj) hx
end

/-- The fields below k that are pointers. -/
def ptL (l m : Int) : Nat → List Int
  | 0 => []
  | k + 1 => if isPtr l m k = true then ptL l m k ++ [(k : Int)] else ptL l m k
theorem ptL_0 (l m : Int) : ptL l m (Int.toNat 0) = [] := rfl
theorem ptL_yes {l m i n : Int} (h0 : 0 ≤ i) (h : isPtr l m i = true) (hn : n = i + 1) : ptL l m (Int.toNat i) ++ [i] = ptL l m (Int.toNat n) := by
  have e : Int.toNat n = Int.toNat i + 1 := by omega
  have e2 : ((Int.toNat i : Nat) : Int) = i := by omega
  rw [e]
  simp only [ptL]
  rw [e2, if_pos h]
theorem ptL_no {l m i n : Int} (h0 : 0 ≤ i) (h : isPtr l m i = false) (hn : n = i + 1) : ptL l m (Int.toNat i) = ptL l m (Int.toNat n) := by
  have e : Int.toNat n = Int.toNat i + 1 := by omega
  have e2 : ((Int.toNat i : Nat) : Int) = i := by omega
  rw [e]
  simp only [ptL]
  rw [e2, h]
  simp
theorem ptL_eq {l m i n : Int} (h : i = n) : ptL l m (Int.toNat i) = ptL l m (Int.toNat n) := by rw [h]
theorem ptL_in {l m : Int} : ∀ (k : Nat) (x : Int), x ∈ ptL l m k → isPtr l m x = true ∧ 0 ≤ x ∧ x < (k : Int)
  | 0, x, h => by simp [ptL] at h
  | k + 1, x, h => by
    simp only [ptL] at h
    split at h
    · rename_i hp
      rcases List.mem_append.1 h with h | h
      · obtain ⟨h1, h2, h3⟩ := ptL_in k x h; exact ⟨h1, h2, by omega⟩
      · simp at h; subst h; exact ⟨hp, by omega, by omega⟩
    · obtain ⟨h1, h2, h3⟩ := ptL_in k x h; exact ⟨h1, h2, by omega⟩
theorem ptL_len {l m : Int} : ∀ (k : Nat), (ptL l m k).length ≤ k
  | 0 => by simp [ptL]
  | k + 1 => by
    have := ptL_len (l := l) (m := m) k
    simp only [ptL]
    split
    · simp; omega
    · omega
theorem ptL_le {l m i : Int} (h : 0 ≤ i) : ((ptL l m (Int.toNat i)).length : Int) ≤ i := by
  have := ptL_len (l := l) (m := m) (Int.toNat i)
  omega
end Go.Proofs.Ytlapjlbmhaalbaa.X
