/- Entering and leaving, for proofs that are printed. -/
import Derived.Test.YtjchmajamlehmaaXp
namespace Go.Proofs.Ytjchmajamlehmaa.X
open Go Go.RowKit

theorem sg0 (r : Nat) : sg 0 [] r = r := by
  have : Nat.blt r 0 = false := by cases r <;> rfl
  simp [sg, this, fnd]
theorem via0 (ρ : Env) : ρ.via 0 [] = ρ := by
  cases ρ
  unfold Env.via
  simp [sg0]

theorem wkd {y t : SV} (ks : List Prop) (h : wkc 0 [] y t = some ks) (hk : All ks) : WkD y t := fun Γ v hd => by
  have := wkc_sound (n0 := 0) (σ := []) y t v ks h hk hd
  rwa [via0] at this

section
variable {rd : Option Nat} {P : Program} {T : Tab} {N n0 : Nat} {ops : Array Oper} {mem : Mem} {nx : Nat}

theorem xcall_pub' {f : Nat} {args args' : List SV} {R : SV → Prop} {K : SV → Mem → Nat → Prop} (h : Pub P f args' R) (ks : List Prop) (hw : wkcL 0 [] args args' = some ks) (hks : All ks) (hb : bdL 0 args' = true) (hk : ∀ sv, R sv → K sv mem nx) : XCall P f args mem nx K := by
  refine ⟨h.1, fun Γ ρ w vs hi hd hbd => ?_⟩
  have hd' : DenL Γ ρ args' vs := by
    have := wkcL_sound (n0 := 0) (σ := []) args args' vs ks hw hks hd
    rwa [via0] at this
  exact (xcall_pub (P := P) h (WkL.refl args') hb hk).2 Γ ρ w vs hi hd' (bdL_mono (Nat.zero_le _) args' hb)

theorem pcall {i : Nat} {K : St → Prop} {s : St} {f : Nat} {args args' : List SV} {d : Option Nat} {R : SV → Prop} (h : callAt N ops s.fr i = some (f, args, d)) (hp : Pub P f args' R) (ks : List Prop) (hw : wkcL 0 [] args args' = some ks) (hks : All ks) (hb : bdL 0 args' = true)
    (hk : ∀ sv, R sv → XOi rd P N n0 ops (i + 1) K ⟨putO s.fr d sv, s.mem, s.nx⟩) : XOi rd P N n0 ops i K s := callx h (xcall_pub' hp ks hw hks hb hk)
theorem pcall1 {i : Nat} {K : St → Prop} {s : St} {f : Nat} {args args' : List SV} {d : Option Nat} {sv : SV} (h : callAt N ops s.fr i = some (f, args, d)) (hp : Pub P f args' (fun t => t = sv)) (ks : List Prop) (hw : wkcL 0 [] args args' = some ks) (hks : All ks) (hb : bdL 0 args' = true)
    (hk : XOi rd P N n0 ops (i + 1) K ⟨putO s.fr d sv, s.mem, s.nx⟩) : XOi rd P N n0 ops i K s := pcall h hp ks hw hks hb (fun _ e => by rw [e]; exact hk)

theorem pqcall {i : Nat} {K : Fr → Prop} {fr : Fr} {f : Nat} {args args' : List SV} {d : Option Nat} {sv : SV} (h : qcallAt ops fr i = some (f, args, d)) (hp : Pub P f args' (fun t => t = sv)) (ks : List Prop) (hw : wkcL 0 [] args args' = some ks) (hks : All ks) (hb : bdL 0 args' = true)
    (hk : QOi P N ops mem nx (i + 1) K (putO fr d sv)) : QOi P N ops mem nx i K fr := by
  unfold qcallAt at h
  split at h
  · rename_i o ho
    split at h
    · rename_i f' args' hg hca
      simp only [Option.some.injEq, Prod.mk.injEq] at h
      obtain ⟨rfl, rfl, rfl⟩ := h
      unfold QOi
      rw [drop_cons ho]
      exact q_callx hg hca (xcall_pub' hp ks hw hks hb (fun _ hs => ⟨hs, rfl, rfl⟩)) hk
    · cases h
  · cases h

def rsM (mem : Mem) : List Nat → Mem
  | [] => []
  | t :: l => match fnd mem t with
    | some s => (t, s) :: rsM mem l
    | none => rsM mem l
theorem fnd_rsM (mem : Mem) : ∀ (l : List Nat) (t : Nat) (s : Blk), fnd (rsM mem l) t = some s → fnd mem t = some s
  | [], t, s, h => by simp [rsM, fnd] at h
  | u :: l, t, s, h => by
    simp only [rsM] at h
    split at h
    · rename_i x hx
      rw [fnd_cons] at h
      split at h
      · rename_i e; subst e; cases h; exact hx
      · exact fnd_rsM mem l t s h
    · exact fnd_rsM mem l t s h

theorem le_cut (s : St) (kf km : List Nat) : Le N n0 s ⟨rs s.fr kf, rsM s.mem km, s.nx⟩ := fun _ ρ _ _ hn hok =>
  ⟨ρ, Env.same_refl _ _, hn, ⟨⟨hok.inv.pub, fun r B hB => hok.inv.priv r B (fnd_rsM _ _ _ _ hB), fun r r' b B B' h1 h2 => hok.inv.inj r r' b B B' (fnd_rsM _ _ _ _ h1) (fnd_rsM _ _ _ _ h2)⟩, hok.marks, hok.frame.size, fun d x hx => hok.frame.slot d x (fnd_rs _ _ _ _ hx).2⟩,
    fun _ ⟨r, B, hB, hb⟩ => ⟨r, B, fnd_rsM _ _ _ _ hB, hb⟩⟩

def xrunk (T : Tab) (N : Nat) (ops : Array Oper) (orc : List (Nat × SV)) (n i : Nat) (kf km : List Nat) (s : St) : Option (St × List Prop) :=
  match xruni T N ops orc n i s with
  | some (s', ks) => some (⟨rs s'.fr kf, rsM s'.mem km, s'.nx⟩, ks)
  | none => none
theorem runk (hT : TabOk P T) (orc : List (Nat × SV)) (n i : Nat) (kf km : List Nat) {s : St} (s' : St) (ks : List Prop) {K : St → Prop} (h : xrunk T N ops orc n i kf km s = some (s', ks)) (hk : All ks) (hx : XOi rd P N n0 ops (i + n) K s') : XOi rd P N n0 ops i K s := by
  unfold xrunk at h
  split at h
  · rename_i s1 k1 hr
    simp only [Option.some.injEq, Prod.mk.injEq] at h
    obtain ⟨rfl, rfl⟩ := h
    exact run hT orc n i s s1 _ hr hk (xo_le (le_cut s1 kf km) hx)
  · cases h

theorem QO.sub {l : List Oper} {K : Fr → Prop} {fr fr' : Fr} (h : QO P N ops mem nx l K fr') (hs : ∀ t, fnd fr t = fnd fr' t) : QO P N ops mem nx l K fr := by
  obtain ⟨ss, fr2, h1, h2, h3⟩ := h
  exact ⟨ss, fr2, h1.congr (fun t => (hs t).symm), fun t s h => by rw [lexFr_congr l ss hs t]; exact h2 t s h, h3⟩

theorem dregk (hm : P.follows .mixedOrders = true) {id : Nat} {K : XE → St → Prop} {s : St} (hd : drawOk N ops = true) (h : QOi P N ops s.mem s.nx 0 (fun fr2 => K .normal ⟨fr2, s.mem, s.nx⟩) s.fr) : XW rd P N n0 (.region id ops true) K s := by
  cases s; exact dreg hm hd h

def BackX (T : Tab) (rs : Array ResultVar) (K : SV → Mem → Nat → Prop) : XE → St → Prop
  | .ret, s | .normal, s => ∃ x, xres T s rs = some x ∧ K x s.mem s.nx
  | _, _ => False

theorem xcall_of (hT : TabOk P T) {f : Nat} {fn : Func} {c : Code} (hf : P.funcs[f]? = some fn) (hb : fn.body = some c) (hne : fn.name ≠ "runtime.NumGoroutine") {args : List SV} {K : SV → Mem → Nat → Prop} (hN : args.length ≤ fn.ntmps)
    (h : XW none P fn.ntmps nx c (BackX T fn.results K) ⟨argFr 0 args, mem, nx⟩) : XCall P f args mem nx K := by
  refine ⟨⟨fn, hf, hne, by rw [hb]; rfl⟩, fun Γ ρ w vs hi hd hbd => ?_⟩
  refine (callsIn_wide (n := 0)).1 (callsIn_of_wp_marks hf hb trivial ?_ rfl)
  refine wpIn_mono (h (Γ.re w.heap.size) ρ w _ (Nat.le_refl _) ⟨hi.relo _, MkOk.nil (Nat.le_refl _), argFr_ok (DenL.ext0 (Gh.sub_re Γ _) _ _ (Env.same_refl nx ρ) hbd hd) hbd hN⟩) ?_
  rintro e a' w1 ⟨xe, Γ', ρ', s', rfl, hok1, hnxt, hback⟩
  have key : (∃ x, xres T s' fn.results = some x ∧ K x s'.mem s'.nx) → LeavesInM (fnc none) 0 P fn a'.tmps (fun e w' => ∃ v sv Γ' ρ' mem' nx', e = .returned v ∧ Inv Γ' ρ' nx' mem' w' ∧ Den Γ' ρ' sv v ∧ sv.bd nx' = true ∧ Stp ρ mem w ρ' mem' w' ∧ Γ.le Γ' ∧ Env.same nx ρ ρ' ∧ nx ≤ nx' ∧
      (∀ b, Γ' b ≠ none → Γ b ≠ none ∨ Owned ρ mem b ∨ w.heap.size ≤ b) ∧ K sv mem' nx') a'.defers .returning w1 := by
    rintro ⟨x, h1, h2⟩
    obtain ⟨_, bs, e1, e2, e3⟩ := hok1.marks
    rw [e1]
    refine leaves_marks bs w1 e2 (fun b hb => (e3 b hb).2) fun w' hcl => ?_
    have hok := hcl.ok (fun b hb => (e3 b hb).2) hok1
    have hstp := hcl.stp (w0 := w) (fun b hb => by have := (e3 b hb).1; rw [hnxt.le.2] at this; exact this) hnxt.stp
    obtain ⟨v, g1, g2, g3⟩ := xres_sound hT hok h1
    exact ⟨v, g1, v, x, Γ'.re Γ.lo, ρ', s'.mem, s'.nx, rfl, hok.inv.relo _, Den.ext0 (Gh.sub_re _ _) x v (Env.same_refl s'.nx ρ') g3 g2, g3, hstp, ⟨hnxt.le.1, rfl⟩, hnxt.same, hnxt.nx, hnxt.new, h2⟩
  cases xe with
  | normal => exact key hback
  | ret => exact key hback
  | exit i => exact hback.elim
  | goto l => exact hback.elim
end
end Go.Proofs.Ytjchmajamlehmaa.X
