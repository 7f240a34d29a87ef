/- Short steps for ranges over functions. -/
import Derived.Test.YtfcohnhfindlmaaXx2
import Derived.Test.YtfcohnhfindlmaaXm3
namespace Go.Proofs.Ytfcohnhfindlmaa.X
open Go Go.RowKit

def yieldAt (N : Nat) (ops : Array Oper) (fr : Fr) (i : Nat) : Option (Nat × List SV × Option Nat) := match ops.toList[i]? with
  | some o => match gd ops fr o.guard, o.op with
    | some true, .call ⟨.value g, as, _⟩ => match evo fr g, putS N fr o.dst (.bool true) with
      | .raw (.func (.yield l) ⟨[]⟩ ⟨[]⟩), some _ => some (l, as.toList.map (evo fr), o.dst)
      | _, _ => none
    | _, _ => none
  | none => none
section
variable {rd : Option Nat} {P : Program} {T : Tab} {N n0 : Nat} {ops : Array Oper}
def YK (rd : Option Nat) (P : Program) (N n0 : Nat) (ops : Array Oper) (i : Nat) (K : St → Prop) (s : St) (d : Option Nat) (r nb : Nat) (q : Lp) : XE → St → Prop := fun e s2 =>
  XOi rd P N n0 ops (i + 1) K ⟨putO s.fr d (.bool e.jump.isNone), (r, .lp nb { q with left := e.jump }) :: s2.mem, s2.nx⟩
theorem xoi_yield {i : Nat} {K : St → Prop} {s : St} (r nb : Nat) {q : Lp} {lq N0 : Nat} {fr0 : Fr} {fn : FuncId} {ps : Array Tmp} {assign body : Code} {xs : List SV} {d : Option Nat} (hq : q = ⟨lq, none, fr0, N0, fn, ps, assign, body⟩) (hat : yieldAt N ops s.fr i = some (lq, xs, d))
    (hm : fnd s.mem r = some (.lp nb q)) (hps : Nat.beq ps.size xs.length = true) (hpN : ps.toList.all (fun t => Nat.blt t N0) = true)
    (h : XW (some lq) P N0 s.nx assign (fun e s1 => e = .normal ∧ XW (some lq) P N0 s.nx body (YK rd P N n0 ops i K s d r nb q) s1) ⟨roundFr ps.toList xs fr0, del s.mem r, s.nx⟩) : XOi rd P N n0 ops i K s := by
  unfold yieldAt at hat
  split at hat
  · rename_i o ho
    split at hat
    · rename_i g as ats hg hop
      split at hat
      · rename_i l' fr'' hy hput
        simp only [Option.some.injEq, Prod.mk.injEq] at hat
        obtain ⟨rfl, rfl, rfl⟩ := hat
        subst hq
        unfold XOi
        rw [drop_cons ho]
        obtain ⟨asl⟩ := as
        refine xo_yield (g := g) (as := asl) (ats := ats) (r := r) (nb := nb) hg hop hy hm rfl rfl ?_ (fun t ht => ?_) (xw_mono h ?_)
        · have := Nat.eq_of_beq_eq_true hps
          simpa using this
        · simpa using List.all_eq_true.1 hpN t ht
        · rintro e s1 ⟨h1, h2⟩
          refine ⟨h1, xw_mono h2 fun e s2 hk => ?_⟩
          have hp : ∀ b, ∃ fr', putS N s.fr o.dst (.bool b) = some fr' ∧ fr' = putO s.fr o.dst (.bool b) := fun b => by
            cases hd : o.dst with
            | none => exact ⟨_, rfl, rfl⟩
            | some d =>
              rw [hd] at hput
              simp only [putS] at hput ⊢
              split at hput
              · exact ⟨_, rfl, rfl⟩
              · cases hput
          obtain ⟨fr', k1, k2⟩ := hp e.jump.isNone
          exact ⟨fr', k1, by rw [k2]; exact hk⟩
      · cases hat
    · cases hat
  · cases hat
variable {i : Nat} {K : St → Prop} {s s2 : St} {d : Option Nat} {r nb : Nat} {q : Lp}
theorem yk_normal (hl : q.left = none) (h : XOi rd P N n0 ops (i + 1) K ⟨putO s.fr d (.bool true), (r, .lp nb q) :: s2.mem, s2.nx⟩) : YK rd P N n0 ops i K s d r nb q .normal s2 := by
  have : ({ q with left := none } : Lp) = q := by cases q; simp only at hl; subst hl; rfl
  unfold YK
  show XOi rd P N n0 ops (i + 1) K ⟨putO s.fr d (.bool true), (r, .lp nb { q with left := none }) :: s2.mem, s2.nx⟩
  rw [this]; exact h
theorem yk_ret (h : ∀ q', q' = ({ q with left := some .ret } : Lp) → XOi rd P N n0 ops (i + 1) K ⟨putO s.fr d (.bool false), (r, .lp nb q') :: s2.mem, s2.nx⟩) : YK rd P N n0 ops i K s d r nb q .ret s2 := h _ rfl
theorem yk_exit {id : Nat} (h : ∀ q', q' = ({ q with left := some (.exit id) } : Lp) → XOi rd P N n0 ops (i + 1) K ⟨putO s.fr d (.bool false), (r, .lp nb q') :: s2.mem, s2.nx⟩) : YK rd P N n0 ops i K s d r nb q (.exit id) s2 := h _ rfl
theorem range_end {K : XE → St → Prop} {N n0 r : Nat} {mem : Mem} {nx : Nat} {fr : Fr} {nb : Nat} {q : Lp} (hm : fnd mem r = some (.lp nb q)) (hl : q.left = none) (h : K .normal ⟨fr, del mem r, nx⟩) :
    ∃ q, fnd mem r = some (.lp nb q) ∧ (q.left = none → K .normal ⟨fr, del mem r, nx⟩) ∧ (∀ c, q.left = some c → XW none P N n0 c K ⟨fr, del mem r, nx⟩) := ⟨q, hm, fun _ => h, fun c hc => by rw [hl] at hc; cases hc⟩
theorem range_jump {K : XE → St → Prop} {N n0 r : Nat} {mem : Mem} {nx : Nat} {fr : Fr} {nb : Nat} {q : Lp} {c : Code} (hm : fnd mem r = some (.lp nb q)) (hl : q.left = some c) (h : XW none P N n0 c K ⟨fr, del mem r, nx⟩) :
    ∃ q, fnd mem r = some (.lp nb q) ∧ (q.left = none → K .normal ⟨fr, del mem r, nx⟩) ∧ (∀ c, q.left = some c → XW none P N n0 c K ⟨fr, del mem r, nx⟩) := ⟨q, hm, fun e => (by rw [hl] at e; cases e), fun c' hc => by rw [hl] at hc; cases hc; exact h⟩
end
end Go.Proofs.Ytfcohnhfindlmaa.X
