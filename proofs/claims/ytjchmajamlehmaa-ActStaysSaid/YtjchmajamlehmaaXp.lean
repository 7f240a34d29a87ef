/- The rules in the form in which proofs use them: by places in a region. -/
import Derived.Test.YtjchmajamlehmaaXo
namespace Go.Proofs.Ytjchmajamlehmaa.X
open Go Go.RowKit

section
variable {rd : Option Nat} {P : Program} {T : Tab} {N n0 : Nat} {ops : Array Oper} {mem : Mem} {nx : Nat}

def XOi (rd : Option Nat) (P : Program) (N n0 : Nat) (ops : Array Oper) (i : Nat) (K : St → Prop) (s : St) : Prop := XO rd P N n0 ops (ops.toList.drop i) K s
def QOi (P : Program) (N : Nat) (ops : Array Oper) (mem : Mem) (nx : Nat) (i : Nat) (K : Fr → Prop) (fr : Fr) : Prop := QO P N ops mem nx (ops.toList.drop i) K fr

theorem reg {id : Nat} {K : XE → St → Prop} {s : St} (h : XOi rd P N n0 ops 0 (K .normal) s) : XW rd P N n0 (.region id ops false) K s := xw_region (by simpa [XOi] using h)

theorem xrun_drop (orc : List (Nat × SV)) : ∀ (n i : Nat) (l : List Oper) (s : St) (l' : List Oper) (s' : St) (ks : List Prop), xrun T N ops orc n i l s = some (l', s', ks) → l' = l.drop n
  | 0, _, l, s, l', s', ks, h => by
    simp only [xrun, Option.some.injEq, Prod.mk.injEq] at h
    simp [h.1]
  | n + 1, _, [], s, l', s', ks, h => by simp [xrun] at h
  | n + 1, i, o :: l, s, l', s', ks, h => by
    simp only [xrun] at h
    split at h
    · split at h
      · split at h
        · split at h
          · rename_i hr
            have := xrun_drop orc n (i + 1) l _ _ _ _ hr
            split at h <;> (simp only [Option.some.injEq, Prod.mk.injEq] at h; obtain ⟨rfl, rfl, rfl⟩ := h; simpa using this)
          · cases h
        · cases h
      · cases h
    · split at h
      · have := xrun_drop orc n (i + 1) l _ _ _ _ h
        simpa using this
      · cases h
    · cases h

def xruni (T : Tab) (N : Nat) (ops : Array Oper) (orc : List (Nat × SV)) (n i : Nat) (s : St) : Option (St × List Prop) :=
  match xrun T N ops orc n i (ops.toList.drop i) s with
  | some (_, s', ks) => some (s', ks)
  | none => none

theorem run (hT : TabOk P T) (orc : List (Nat × SV)) (n i : Nat) (s s' : St) (ks : List Prop) {K : St → Prop} (h : xruni T N ops orc n i s = some (s', ks)) (hk : All ks) (hx : XOi rd P N n0 ops (i + n) K s') : XOi rd P N n0 ops i K s := by
  unfold xruni at h
  split at h
  · rename_i l' s1 k1 hr
    simp only [Option.some.injEq, Prod.mk.injEq] at h
    obtain ⟨rfl, rfl⟩ := h
    have hl := xrun_drop orc n i _ s _ _ _ hr
    refine xo_run hT orc n i _ s l' _ _ hr hk ?_
    rw [hl, List.drop_drop]; exact hx
  · cases h

theorem endr {i : Nat} {K : St → Prop} {s : St} (h : ops.toList.drop i = []) (hk : K s) : XOi rd P N n0 ops i K s := by
  unfold XOi; rw [h]; exact xo_nil hk

def callAt (N : Nat) (ops : Array Oper) (fr : Fr) (i : Nat) : Option (Nat × List SV × Option Nat) :=
  match ops.toList[i]? with
  | some o => match gd ops fr o.guard, callee fr o.op, (match o.dst with | some d => Nat.blt d N | none => true) with
    | some true, some (f, args), true => some (f, args, o.dst)
    | _, _, _ => none
  | none => none

theorem drop_cons {i : Nat} {o : Oper} {l : List Oper} (h : l[i]? = some o) : l.drop i = o :: l.drop (i + 1) := by
  obtain ⟨hi, he⟩ := List.getElem?_eq_some_iff.1 h
  rw [← he]; exact List.drop_eq_getElem_cons hi

theorem callx {i : Nat} {K : St → Prop} {s : St} {f : Nat} {args : List SV} {d : Option Nat} (h : callAt N ops s.fr i = some (f, args, d)) (hc : XCall P f args s.mem s.nx fun sv mem' nx' => XOi rd P N n0 ops (i + 1) K ⟨putO s.fr d sv, mem', nx'⟩) : XOi rd P N n0 ops i K s := by
  unfold callAt at h
  split at h
  · rename_i o ho
    split at h
    · rename_i f' args' hg hca hd
      simp only [Option.some.injEq, Prod.mk.injEq] at h
      obtain ⟨rfl, rfl, rfl⟩ := h
      unfold XOi
      rw [drop_cons ho]
      refine xo_call hg hca ⟨hc.1, fun Γ ρ w vs h1 h2 h3 => (hc.2 Γ ρ w vs h1 h2 h3).mono ?_⟩
      rintro e w' ⟨v, sv, Γ', ρ', mem', nx', g1, g2, g3, g4, g5, g6, g7, g8, g9, g10⟩
      refine ⟨v, sv, Γ', ρ', mem', nx', g1, g2, g3, g4, g5, g6, g7, g8, g9, putO s.fr o.dst sv, ?_, g10⟩
      cases hdd : o.dst with
      | none => rfl
      | some d => rw [hdd] at hd; simp only at hd; simp only [putS, putO, hd]
    · cases h
  · cases h

theorem call {i : Nat} {K : St → Prop} {s : St} {f : Nat} {args args' : List SV} {d : Option Nat} {R : SV → Prop} (h : callAt N ops s.fr i = some (f, args, d)) (hp : Pub P f args' R) (hw : WkL args args') (hb : bdL 0 args' = true)
    (hk : ∀ sv, R sv → XOi rd P N n0 ops (i + 1) K ⟨putO s.fr d sv, s.mem, s.nx⟩) : XOi rd P N n0 ops i K s := callx h (xcall_pub hp hw hb hk)

theorem splitr {i : Nat} {K : St → Prop} {s : St} (d : Nat) {x : Bool} (hd : fnd s.fr d = some (.bool x)) (ht : x = true → XOi rd P N n0 ops i K ⟨(d, .bool true) :: s.fr, s.mem, s.nx⟩) (hf : x = false → XOi rd P N n0 ops i K ⟨(d, .bool false) :: s.fr, s.mem, s.nx⟩) : XOi rd P N n0 ops i K s := xo_split d hd ht hf

theorem dreg (hm : P.follows .mixedOrders = true) {id : Nat} {K : XE → St → Prop} {fr : Fr} (hd : drawOk N ops = true) (h : QOi P N ops mem nx 0 (fun fr2 => K .normal ⟨fr2, mem, nx⟩) fr) : XW rd P N n0 (.region id ops true) K ⟨fr, mem, nx⟩ :=
  xw_draw hm hd (by simpa [QOi] using h)

theorem xqrun_drop (orc : List (Nat × SV)) : ∀ (n i : Nat) (l : List Oper) (fr : Fr) (l' : List Oper) (fr' : Fr) (ks : List Prop), xqrun T ops mem nx orc n i l fr = some (l', fr', ks) → l' = l.drop n
  | 0, _, l, fr, l', fr', ks, h => by
    simp only [xqrun, Option.some.injEq, Prod.mk.injEq] at h
    simp [h.1]
  | n + 1, _, [], fr, l', fr', ks, h => by simp [xqrun] at h
  | n + 1, i, o :: l, fr, l', fr', ks, h => by
    simp only [xqrun] at h
    split at h
    · split at h
      · split at h
        · split at h
          · rename_i hr
            have := xqrun_drop orc n (i + 1) l _ _ _ _ hr
            split at h <;> (simp only [Option.some.injEq, Prod.mk.injEq] at h; obtain ⟨rfl, rfl, rfl⟩ := h; simpa using this)
          · cases h
        · cases h
      · cases h
    · have := xqrun_drop orc n (i + 1) l _ _ _ _ h
      simpa using this
    · cases h

def xqruni (T : Tab) (ops : Array Oper) (mem : Mem) (nx : Nat) (orc : List (Nat × SV)) (n i : Nat) (fr : Fr) : Option (Fr × List Prop) :=
  match xqrun T ops mem nx orc n i (ops.toList.drop i) fr with
  | some (_, fr', ks) => some (fr', ks)
  | none => none

theorem qrun (hT : TabOk P T) (orc : List (Nat × SV)) (n i : Nat) (fr fr' : Fr) (ks : List Prop) {K : Fr → Prop} (h : xqruni T ops mem nx orc n i fr = some (fr', ks)) (hk : All ks) (hx : QOi P N ops mem nx (i + n) K fr') : QOi P N ops mem nx i K fr := by
  unfold xqruni at h
  split at h
  · rename_i l' s1 k1 hr
    simp only [Option.some.injEq, Prod.mk.injEq] at h
    obtain ⟨rfl, rfl⟩ := h
    have hl := xqrun_drop orc n i _ fr _ _ _ hr
    refine q_run hT orc n i _ fr l' _ _ hr hk ?_
    rw [hl, List.drop_drop]; exact hx
  · cases h

theorem qend {i : Nat} {K : Fr → Prop} {fr : Fr} (h : ops.toList.drop i = []) (hk : K fr) : QOi P N ops mem nx i K fr := by
  unfold QOi; rw [h]; exact q_nil hk

def qcallAt (ops : Array Oper) (fr : Fr) (i : Nat) : Option (Nat × List SV × Option Nat) :=
  match ops.toList[i]? with
  | some o => match gd ops (rs fr (o.looksAt ops)) o.guard, callee (rs fr (o.looksAt ops)) o.op with
    | some true, some (f, args) => some (f, args, o.dst)
    | _, _ => none
  | none => none

end

end Go.Proofs.Ytjchmajamlehmaa.X
