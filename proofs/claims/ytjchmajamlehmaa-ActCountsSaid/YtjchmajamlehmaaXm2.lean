/- Loops and jumps taken round by round, where there are only few. -/
import Derived.Test.YtjchmajamlehmaaXz
namespace Go.Proofs.Ytjchmajamlehmaa.X
open Go Go.RowKit
section
variable {rd : Option Nat} {P : Program} {N n0 : Nat}

def UL (rd : Option Nat) (P : Program) (N n0 : Nat) (c : Code) (K : XE → St → Prop) : Nat → St → Prop
  | 0, _ => False
  | n + 1, s => XW rd P N n0 c (fun e s' => match e with | .normal => UL rd P N n0 c K n s' | e => K e s') s
def AgU (rd : Option Nat) (P : Program) (N n0 : Nat) (c : Code) (K : XE → St → Prop) (n : Nat) : XE → St → Prop
  | .normal, s => UL rd P N n0 c K n s
  | e, s => K e s
theorem ul_step {c : Code} {K : XE → St → Prop} {n : Nat} {s : St} (h : XW rd P N n0 c (AgU rd P N n0 c K n) s) : UL rd P N n0 c K (n + 1) s :=
  xw_mono h fun e s' h => by cases e <;> exact h
theorem xw_unroll {c : Code} {K : XE → St → Prop} {s : St} (n : Nat) (h : UL rd P N n0 c K n s) : XW rd P N n0 (.loop c) K s := by
  intro Γ ρ w a hn hok
  refine wp_loop_ix (α := {p : Nat × St // UL rd P N n0 c K p.1 p.2}) (fun x a' w' => ∃ Γ' ρ', Ok Γ' ρ' N x.1.2 w' a' ∧ Nxt n0 Γ ρ s w Γ' ρ' x.1.2 w') (fun x => x.1.1) (x0 := ⟨(n, s), h⟩) ?_ ?_
  · exact ⟨Γ, ρ, hok, Nxt.refl _ _ _ _ hn⟩
  · rintro ⟨⟨m, t⟩, hx⟩ a' w' ⟨Γ', ρ', hok', hnx⟩
    cases m with
    | zero => exact absurd hx (by simp [UL])
    | succ m =>
      refine wpIn_mono ((show XW rd P N n0 c _ t from hx) Γ' ρ' w' a' hnx.nx hok') ?_
      rintro e a₂ w₂ ⟨xe, Γ₂, ρ₂, s₂, rfl, h2, h3, h4⟩
      cases xe with
      | normal => exact ⟨⟨(m, s₂), h4⟩, ⟨Γ₂, ρ₂, h2, hnx.trans h3⟩, Nat.lt_succ_self m⟩
      | exit i => exact ⟨.exit i, Γ₂, ρ₂, s₂, rfl, h2, hnx.trans h3, h4⟩
      | goto l => exact ⟨.goto l, Γ₂, ρ₂, s₂, rfl, h2, hnx.trans h3, h4⟩
      | ret => exact ⟨.ret, Γ₂, ρ₂, s₂, rfl, h2, hnx.trans h3, h4⟩

def UJ (rd : Option Nat) (P : Program) (N n0 : Nat) (l : Nat) (c : Code) (K : XE → St → Prop) : Nat → St → Prop
  | 0, _ => False
  | n + 1, s => XW rd P N n0 c (fun e s' => match e with | .goto l' => l' = l ∧ UJ rd P N n0 l c K n s' | e => K e s') s
def JuU (rd : Option Nat) (P : Program) (N n0 : Nat) (l : Nat) (c : Code) (K : XE → St → Prop) (n : Nat) : XE → St → Prop
  | .goto l', s => l' = l ∧ UJ rd P N n0 l c K n s
  | e, s => K e s
theorem uj_step {l : Nat} {c : Code} {K : XE → St → Prop} {n : Nat} {s : St} (h : XW rd P N n0 c (JuU rd P N n0 l c K n) s) : UJ rd P N n0 l c K (n + 1) s :=
  xw_mono h fun e s' h => by cases e <;> exact h
theorem xw_scope_u {c rest : Code} {K : XE → St → Prop} {s : St} (l n : Nat) (hf : findLabel c l = some rest) (h : XW none P N n0 c (JuU none P N n0 l rest K n) s) : XW none P N n0 (.scope c) K s := by
  intro Γ ρ w a hn hok
  refine (wpIn_wide (n := 0)).2 (wp_scope_ix l (α := {p : Nat × St // UJ none P N n0 l rest K p.1 p.2}) (fun x a' w' => ∃ Γ' ρ', Ok Γ' ρ' N x.1.2 w' a' ∧ Nxt n0 Γ ρ s w Γ' ρ' x.1.2 w') (fun x => x.1.1) hf ?_ ?_)
  · refine wp_mono ((wpIn_wide (n := 0)).1 (h Γ ρ w a hn hok)) ?_
    rintro e a₂ w₂ ⟨xe, Γ₂, ρ₂, s₂, rfl, h2, h3, h4⟩
    cases xe with
    | normal => exact ⟨.normal, Γ₂, ρ₂, s₂, rfl, h2, h3, h4⟩
    | exit i => exact ⟨.exit i, Γ₂, ρ₂, s₂, rfl, h2, h3, h4⟩
    | goto l' => exact ⟨h4.1, ⟨(n, s₂), h4.2⟩, Γ₂, ρ₂, h2, h3⟩
    | ret => exact ⟨.ret, Γ₂, ρ₂, s₂, rfl, h2, h3, h4⟩
  · rintro ⟨⟨m, t⟩, hx⟩ a' w' ⟨Γ', ρ', hok', hnx⟩
    cases m with
    | zero => exact absurd hx (by simp [UJ])
    | succ m =>
      refine wp_mono ((wpIn_wide (n := 0)).1 ((show XW none P N n0 rest _ t from hx) Γ' ρ' w' a' hnx.nx hok')) ?_
      rintro e a₂ w₂ ⟨xe, Γ₂, ρ₂, s₂, rfl, h2, h3, h4⟩
      cases xe with
      | normal => exact ⟨.normal, Γ₂, ρ₂, s₂, rfl, h2, hnx.trans h3, h4⟩
      | exit i => exact ⟨.exit i, Γ₂, ρ₂, s₂, rfl, h2, hnx.trans h3, h4⟩
      | goto l' => exact ⟨h4.1, ⟨(m, s₂), h4.2⟩, ⟨Γ₂, ρ₂, h2, hnx.trans h3⟩, Nat.lt_succ_self m⟩
      | ret => exact ⟨.ret, Γ₂, ρ₂, s₂, rfl, h2, hnx.trans h3, h4⟩

section
variable {c : Code} {K : XE → St → Prop} {n l i : Nat} {s : St}
theorem agu (h : UL rd P N n0 c K n s) : AgU rd P N n0 c K n .normal s := h
theorem agu_exit (h : K (.exit i) s) : AgU rd P N n0 c K n (.exit i) s := h
theorem juu (h : UJ rd P N n0 l c K n s) : JuU rd P N n0 l c K n (.goto l) s := ⟨rfl, h⟩
theorem juu_ret (h : K .ret s) : JuU rd P N n0 l c K n .ret s := h
end
section
variable {ops : Array Oper}
theorem setr {i : Nat} {K : St → Prop} {s : St} (r : Nat) {z E : Nat} {L L' : List SV} (hd : fnd s.mem r = some (.row z E L)) (e : L = L') (h : XOi rd P N n0 ops i K ⟨s.fr, upd s.mem r (.row z E L'), s.nx⟩) : XOi rd P N n0 ops i K s := by
  subst e
  have hsame : ∀ t, fnd (upd s.mem r (.row z E L)) t = fnd s.mem t := fun t => by
    rw [fnd_upd s.mem r t _ (by rw [hd]; rfl)]
    split
    · rename_i e; subst e; exact hd.symm
    · rfl
  refine xo_le (s' := ⟨s.fr, upd s.mem r (.row z E L), s.nx⟩) (fun Γ ρ w a hn hok => ⟨ρ, Env.same_refl _ _, hn, ⟨⟨hok.inv.pub, fun t B h => ?_, fun t t' b B B' h h' => ?_⟩, hok.marks, hok.frame⟩, ?_⟩) h
  · rw [hsame] at h; exact hok.inv.priv t B h
  · rw [hsame] at h h'; exact hok.inv.inj t t' b B B' h h'
  · rintro b ⟨t, B, h, hb⟩
    rw [hsame] at h; exact ⟨t, B, h, hb⟩
theorem sets {i : Nat} {K : St → Prop} {s : St} (d : Nat) {x : Bool} {z : Nat} {L L' : List SV} (hd : fnd s.fr d = some (.sl x z L)) (e : L = L') (h : XOi rd P N n0 ops i K ⟨(d, .sl x z L') :: s.fr, s.mem, s.nx⟩) : XOi rd P N n0 ops i K s := by
  subst e
  refine xo_le (s' := ⟨(d, .sl x z L) :: s.fr, s.mem, s.nx⟩) (fun Γ ρ w a hn hok => ⟨ρ, Env.same_refl _ _, hn, ⟨hok.inv, hok.marks, hok.frame.size, fun t v hv => ?_⟩, fun _ h => h⟩) h
  rw [fnd_cons] at hv
  split at hv
  · rename_i e; subst e; cases hv; exact hok.frame.slot d _ hd
  · exact hok.frame.slot t v hv
end
theorem pcall0 {ops : Array Oper} {i : Nat} {K : St → Prop} {s : St} {f : Nat} {args : List SV} {d : Option Nat} {sv : SV} (hp : Pub P f args (fun t => t = sv)) (h : callAt N ops s.fr i = some (f, args, d)) (hb : bdL 0 args = true)
    (hk : XOi rd P N n0 ops (i + 1) K ⟨putO s.fr d sv, s.mem, s.nx⟩) : XOi rd P N n0 ops i K s := callx h (xcall_pub hp (WkL.refl args) hb (fun _ e => by rw [e]; exact hk))
theorem pqcall0 {ops : Array Oper} {mem : Mem} {nx : Nat} {i : Nat} {K : Fr → Prop} {fr : Fr} {f : Nat} {args : List SV} {d : Option Nat} {sv : SV} (hp : Pub P f args (fun t => t = sv)) (h : qcallAt ops fr i = some (f, args, d)) (hb : bdL 0 args = true)
    (hk : QOi P N ops mem nx (i + 1) K (putO fr d sv)) : QOi P N ops mem nx i K fr := by
  unfold qcallAt at h
  split at h
  · rename_i o ho
    split at h
    · rename_i f' args' hg hca
      simp only [Option.some.injEq, Prod.mk.injEq] at h
      obtain ⟨rfl, rfl, rfl⟩ := h
      unfold QOi
      rw [drop_cons ho]
      exact q_callx hg hca (xcall_pub hp (WkL.refl _) hb (fun _ hs => ⟨hs, rfl, rfl⟩)) hk
    · cases h
  · cases h
theorem scall0 {ops : Array Oper} {sg : List (Mem × Nat)} {ws : List Nat} {bf : List (Nat × List Nat)} {i : Nat} {K : Fr → Prop} {fr : Fr} {f : Nat} {args : List SV} {d : Option Nat} {sv : SV} (hp : Pub P f args (fun t => t = sv)) (h : qcallAt ops fr i = some (f, args, d)) (hno : wIdx i 0 ws = none) (hb : bdL 0 args = true)
    (hk : SO P N ops sg ws bf (i + 1) K (putO fr d sv)) : SO P N ops sg ws bf i K fr := by
  unfold qcallAt at h
  split at h
  · rename_i o ho
    split at h
    · rename_i f' args2 hg hca
      simp only [Option.some.injEq, Prod.mk.injEq] at h
      obtain ⟨rfl, rfl, rfl⟩ := h
      refine s_step ho ?_ hk
      unfold SStep
      rw [hno]
      exact fun k _ _ => .inr ⟨hg, .inr ⟨f', args2, hca, xcall_pub hp (WkL.refl _) hb (fun _ hs => ⟨hs, rfl, rfl⟩)⟩⟩
    · cases h
  · cases h
abbrev hT (xs ys : List Int) (a : Int) : Int := ldw xs ys a / 72057594037927936
abbrev hL (xs ys : List Int) (a : Int) : Int := (ldw xs ys a / 4294967296) % 16777216
abbrev hM (xs ys : List Int) (a : Int) : Int := ldw xs ys a % 4294967296
abbrev m64 (xs : List Int) : List SV := List.map (SV.int .u64) xs
abbrev mm (W : Int) (xs ys : List Int) : List SV := [.int .i64 W, .sl false 1 (m64 xs), .sl false 1 (m64 ys)]
abbrev mr (W : Int) (xs ys : List Int) (l : List SV) : List SV := .int .i64 W :: .sl false 1 (m64 xs) :: .sl false 1 (m64 ys) :: l
theorem ssets {ops : Array Oper} {sg : List (Mem × Nat)} {ws : List Nat} {bf : List (Nat × List Nat)} {i : Nat} {K : Fr → Prop} {fr : Fr} (d : Nat) {x : Bool} {z : Nat} {L L' : List SV} (hd : fnd fr d = some (.sl x z L)) (e : L = L') (h : SO P N ops sg ws bf i K ((d, .sl x z L') :: fr)) : SO P N ops sg ws bf i K fr := by
  subst e
  obtain ⟨ss, fr2, h1, h2, h3⟩ := h
  have hsame : ∀ t, fnd ((d, .sl x z L) :: fr) t = fnd fr t := fun t => by
    rw [fnd_cons]
    split
    · rename_i e; subst e; exact hd.symm
    · rfl
  exact ⟨ss, fr2, h1.congr hsame, fun t s h => by rw [← lexFr_congr _ ss hsame t]; exact h2 t s h, h3⟩
theorem nil_app {L : List SV} : [] ++ L = L := rfl
theorem app_one {k : IntKind} {xs : List Int} {v : Int} : xs.map (SV.int k) ++ [SV.int k v] = (xs ++ [v]).map (SV.int k) := by simp
end
end Go.Proofs.Ytjchmajamlehmaa.X
